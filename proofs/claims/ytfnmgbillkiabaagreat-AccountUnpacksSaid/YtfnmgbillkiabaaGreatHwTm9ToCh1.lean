/- What the functions of the program compute. No condition. -/
import Derived.Test.YtfnmgbillkiabaaGreatHwTm6ToTm8
import Derived.Test.YtfnmgbillkiabaaGreatHwTabToTab
set_option linter.unusedSimpArgs false
set_option linter.unusedVariables false
set_option maxRecDepth 100000
namespace Go.Proofs.YtfnmgbillkiabaaGreat
open Go Go.Sx
theorem ofNat8_inj {a b:Nat} (ha:a < 256) (hb:b < 256) (h:UInt8.ofNat a = UInt8.ofNat b):a = b:=by
 have:=congrArg UInt8.toNat h
 rw [UInt8.toNat_ofNat',UInt8.toNat_ofNat',Nat.mod_eq_of_lt (by omega),Nat.mod_eq_of_lt (by omega)] at this
 exact this
theorem ofNat8_mod {a b:Nat} (h:UInt8.ofNat a = UInt8.ofNat b):a % 256 = b % 256:=by
 have:=congrArg UInt8.toNat h
 rw [UInt8.toNat_ofNat',UInt8.toNat_ofNat'] at this
 exact this
theorem jnR_inj:∀ (L K:List (List UInt8)) (s t:List UInt8),L.length = K.length->(∀ x ∈ L,x.length <= 4096)->(∀ x ∈ K,x.length <= 4096)->jnR L ++ s = jnR K ++ t->L = K/\s = t
 | [],[],s,t,_,_,_,h=>⟨rfl,h⟩
 | [],_ :: _,_,_,h,_,_,_=>by simp at h
 | _ :: _,[],_,_,h,_,_,_=>by simp at h
 | x :: r,y :: q,s,t,hl,hx,hy,h=>by
  have hxl:=hx x (List.mem_cons_self ..)
  have hyl:=hy y (List.mem_cons_self ..)
  simp only [jnR,List.cons_append,List.nil_append,List.append_assoc,List.cons.injEq] at h
  obtain ⟨h1,h2,h3⟩:=h
  have e1:=ofNat8_mod h1
  have e2:=ofNat8_mod h2
  have hlen:x.length = y.length:=by omega
  have hxy:x = y/\jnR r ++ s = jnR q ++ t:=List.append_inj h3 hlen
  obtain ⟨h4,h5⟩:=jnR_inj r q s t (by simpa using hl) (fun z hz=>hx z (List.mem_cons_of_mem _ hz)) (fun z hz=>hy z (List.mem_cons_of_mem _ hz)) hxy.2
  exact ⟨by rw [hxy.1,h4],h5⟩
@[irreducible] def keyT (x:Te):List UInt8:=jnB x.2 ++ [UInt8.ofInt x.1]
theorem keyT_eq (x:Te):keyT x = jnB x.2 ++ [UInt8.ofInt x.1]:=by unfold keyT;rfl
theorem kind_inj {a b:Int} (ha:1 <= a/\a <= 8) (hb:1 <= b/\b <= 8) (h:UInt8.ofInt a = UInt8.ofInt b):a = b:=by
 obtain ⟨n,rfl⟩:∃ n:Nat,a = n:=⟨a.toNat,by omega⟩
 obtain ⟨m,rfl⟩:∃ m:Nat,b = m:=⟨b.toNat,by omega⟩
 rw [ofInt8_nat,ofInt8_nat] at h
 rw [ofNat8_inj (by omega) (by omega) h]
theorem keyT_inj {x y:Te} (hx:Valid x.1 x.2) (hy:Valid y.1 y.2) (h:keyT x = keyT y):x = y:=by
 rw [keyT_eq,keyT_eq,jnB_eq,jnB_eq,List.cons_append,List.cons_append,List.cons.injEq] at h
 have h1:x.2.length = y.2.length:=ofNat8_inj (by have:=hx.1.1;omega) (by have:=hy.1.1;omega) h.1
 obtain ⟨h2,h3⟩:=jnR_inj _ _ _ _ h1 hx.1.2 hy.1.2 h.2
 exact Prod.ext (kind_inj hx.2 hy.2 (by simpa using h3)) h2
def mpF:Nat->List Te->List (List UInt8 × Int)
 | _,[]=>[]
 | i,x :: r=>(keyT x,((i + 1:Nat):Int)) :: mpF (i + 1) r
@[irreducible] def mpL (T:List Te):List (List UInt8 × Int):=mpF 0 T
theorem mpF_app:∀ (i:Nat) (T:List Te) (x:Te),mpF i (T ++ [x]) = mpF i T ++ [(keyT x,((i + T.length + 1:Nat):Int))]
 | i,[],x=>rfl
 | i,y :: r,x=>by
  show _ :: mpF (i + 1) (r ++ [x]) = _ :: (mpF (i + 1) r ++ _)
  rw [mpF_app (i + 1) r x]
  simp only [List.length_cons]
  rw [show i + 1 + r.length + 1 = i + (r.length + 1) + 1 by omega]
theorem mpL_app (T:List Te) (x:Te):mpL (T ++ [x]) = mpL T ++ [(keyT x,((T.length + 1:Nat):Int))]:=by
 unfold mpL;rw [mpF_app,Nat.zero_add]
theorem mpL_nil:mpL [] = []:=by unfold mpL;rfl
theorem mpF_get {x:Te} (hx:Valid x.1 x.2):∀ (i:Nat) (T:List Te),(∀ y ∈ T,Valid y.1 y.2)->mpGet (mpF i T) (keyT x) = if fdT x T = 0 then none else some ((i + fdT x T:Nat):Int)
 | i,[],_=>rfl
 | i,y :: r,h=>by
  have ih:=mpF_get hx (i + 1) r (fun z hz=>h z (List.mem_cons_of_mem _ hz))
  by_cases hxy:y = x
  ·subst hxy
   simp only [mpF,mpGet,fdT,if_true]
   rfl
  ·have hk:keyT x ≠ keyT y:=fun e=>hxy (keyT_inj hx (h y (List.mem_cons_self ..)) e).symm
   have h1:mpGet (mpF i (y :: r)) (keyT x) = mpGet (mpF (i + 1) r) (keyT x):=by
    show (if keyT x = keyT y then _ else _) = _
    rw [if_neg hk]
   rw [h1,ih]
   cases hf:fdT x r with
   | zero=>
    have h2:fdT x (y :: r) = 0:=by unfold fdT;rw [if_neg hxy,hf]
    rw [h2,if_pos rfl,if_pos rfl]
   | succ j=>
    have h2:fdT x (y :: r) = j + 2:=by unfold fdT;rw [if_neg hxy,hf]
    rw [h2,if_neg (by omega),if_neg (by omega)]
    congr 1
    omega
theorem mpL_none {T:List Te} {x:Te} (hx:Valid x.1 x.2) (h:∀ y ∈ T,Valid y.1 y.2) (hf:fdT x T = 0):mpGet (mpL T) (keyT x) = none:=by
 unfold mpL;rw [mpF_get hx 0 T h,if_pos hf]
theorem mpL_some {T:List Te} {x:Te} {i:Nat} (hx:Valid x.1 x.2) (h:∀ y ∈ T,Valid y.1 y.2) (hf:fdT x T = i + 1):mpGet (mpL T) (keyT x) = some ((i + 1:Nat):Int):=by
 unfold mpL;rw [mpF_get hx 0 T h,hf,if_neg (by omega),Nat.zero_add]
theorem mkT_valid {T:List Te} {x:Te} (h:∀ y ∈ T,Valid y.1 y.2):∀ y ∈ (mkT T x).1,Valid y.1 y.2:=by
 by_cases hV:Valid x.1 x.2
 ·cases hf:fdT x T with
  | zero=>
   rw [mkT_new hV hf]
   intro y hy
   rcases List.mem_append.1 hy with hy | hy
   ·exact h y hy
   ·obtain rfl:y = x:=by simpa using hy
    exact hV
  | succ i=>rw [mkT_old hV hf];exact h
 ·rw [mkT_no hV];exact h
theorem mkT_len (T:List Te) (x:Te):T.length <= (mkT T x).1.length/\(mkT T x).1.length <= T.length + 1:=by
 by_cases hV:Valid x.1 x.2
 ·cases hf:fdT x T with
  | zero=>rw [mkT_new hV hf];simp
  | succ i=>rw [mkT_old hV hf];simp
 ·rw [mkT_no hV];simp
def nwF (q:Nat) (L:List (List UInt8)) (j:Nat):List (Nat × SV):=[(1,.isl 0 (inL (L.getD j []) q 0).length 1 [((inL (L.getD j []) q 0).length * 1,.ai (toI (inL (L.getD j []) q 0)))])]
def nmS (q:Nat) (L:List (List UInt8)):SV:=.isl 0 L.length 1 [(L.length * 1,.arr L.length 1 (nwF q L))]
def ttF (T:List Te) (q:Nat):List (Nat × SV):=[(1,.i .i64 (T.getD q te0).1),(1,prS (T.getD q te0).2),(1,nmS q (T.getD q te0).2)]
def MT (n c:Nat) (T:List Te) (a m:Nat) (L:List (List UInt8)):Mm:=[(1000,.mem true 0 [(1,.sl a 0 0 n c),(1,.mp 1002)]),(a,.mem true (zmE (c - n) 3) [(n * 3,.arr n 3 (ttF T))]),(1002,.map (.si (mpL T))),(1003,.mem false 0 (rwS m L))]
theorem ttF_lt {T:List Te} {x:Te} {q:Nat} (h:q < T.length):ttF (T ++ [x]) q = ttF T q:=by
 unfold ttF;rw [getD_app_lt te0 h]
theorem ttF_at (T:List Te) (x:Te):ttF (T ++ [x]) T.length = [(1,.i .i64 x.1),(1,prS x.2),(1,nmS T.length x.2)]:=by
 unfold ttF;rw [getD_app_at]
set_option maxHeartbeats 1000000 in
theorem fn71 (T:List Te) (n c:Nat) (hT:T.length = n) (hn:n <= 60000) (hnc:n <= c) (hTv:∀ x ∈ T,Valid x.1 x.2) (k:Int) (L:List (List UInt8)) (m:Nat) (hL:L.length = m) (hm1:m <= 1000000) (hLs:∀ x ∈ L,x.length <= 1000000) :
  Sx.Fn Γ.P 71 [.ptr 1000 0 none,.i .i64 k,.slx 1003 0 0 m] (MT n c T 1001 m L)
  (fun v M=>∃ n' c',(mkT T (k,L)).1.length = n'/\n' <= c'/\v = .tup [.a8 (kyB (mkT T (k,L)).2),.bool ((mkT T (k,L)).2 ≠ 0)]/\M = (1001,.dead) :: MT n' c' (mkT T (k,L)).1 1005 m L):=by
 have hJ:=fn68 L m hL hm1 hLs
 have hky:=keyT_eq (k,L)
 unfold rwS rwF at hJ
 unfold MT rwS rwF
 refine fn_of (Γ:=Γ) (fn:=Tryz.f71) rfl rfl rfl rfl ?_
 repeat (refine sd ?_)
 refine Call.intro hJ [(1003,(1003,0,none)),(1001,(300,0,none))] rfl fc rfl fc rfl ?_
 rintro v M' (⟨hnj,rfl,rfl⟩ | ⟨c1,N1,hj,hjl,hjc,rfl,rfl⟩)
 ·have hmk:mkT T (k,L) = (T,0):=mkT_no fun h=>hnj h.1
  dsimp only [zt,zM,zE,ren,zz,zx,zy,look,zG,zX,ev,evL,zV,zcT,zcF,act,zP,zO,Ent.zW]
  repeat (refine sd ?_)
  refine Ret.intro (.tup [.a8 (List.replicate 32 0),.bool ((mkT T (k,L)).2 ≠ 0)]) [(1001,.dead),(1000,.mem true 0 [(1,.sl 1005 0 0 n c),(1,.mp 1002)]),(1005,.mem true (zmE (c - n) 3) [(n * 3,.arr n 3 (ttF T))]),(1002,.map (.si (mpL T))),(1003,.mem false 0 [(m * 1,.arr m 1 (rwF L))])] [(1005,(1001,0,none))] rfl ?_ ⟨n,c,by rw [hmk];exact hT,hnc,by rw [hmk];rfl,by rw [hmk];rfl⟩ rfl ?_ rfl ?_ rfl
  ·exact fc
  ·exact fc
  ·exact fc
 dsimp only [zt,zM,zE,ren,zz,zx,zy,look,zG,zX,ev,evL,zV,zcT,zcF,act,zP,zO,Ent.zW]
 repeat (refine sd ?_)
 refine zB.intro (fun h1=>?_) (fun h1=>?_)
 ·have h1:k < 1:=h1
  have hmk:mkT T (k,L) = (T,0):=mkT_no fun h=>by have:=h.2.1;simp only at this;omega
  repeat (refine sd ?_)
  refine Ret.intro (.tup [.a8 (List.replicate 32 0),.bool ((mkT T (k,L)).2 ≠ 0)]) [(1001,.dead),(1000,.mem true 0 [(1,.sl 1005 0 0 n c),(1,.mp 1002)]),(1005,.mem true (zmE (c - n) 3) [(n * 3,.arr n 3 (ttF T))]),(1002,.map (.si (mpL T))),(1003,.mem false 0 [(m * 1,.arr m 1 (rwF L))])] [(1005,(1001,0,none))] rfl ?_ ⟨n,c,by rw [hmk];exact hT,hnc,by rw [hmk];rfl,by rw [hmk];rfl⟩ rfl ?_ rfl ?_ rfl
  ·exact fc
  ·exact fc
  ·exact fc
 have h1:¬ k < 1:=h1
 refine zB.intro (fun h2=>?_) (fun h2=>?_)
 ·have h2:k > 8:=h2
  have hmk:mkT T (k,L) = (T,0):=mkT_no fun h=>by have:=h.2.2;simp only at this;omega
  repeat (refine sd ?_)
  refine Ret.intro (.tup [.a8 (List.replicate 32 0),.bool ((mkT T (k,L)).2 ≠ 0)]) [(1001,.dead),(1000,.mem true 0 [(1,.sl 1005 0 0 n c),(1,.mp 1002)]),(1005,.mem true (zmE (c - n) 3) [(n * 3,.arr n 3 (ttF T))]),(1002,.map (.si (mpL T))),(1003,.mem false 0 [(m * 1,.arr m 1 (rwF L))])] [(1005,(1001,0,none))] rfl ?_ ⟨n,c,by rw [hmk];exact hT,hnc,by rw [hmk];rfl,by rw [hmk];rfl⟩ rfl ?_ rfl ?_ rfl
  ·exact fc
  ·exact fc
  ·exact fc
 have h2:¬ k > 8:=h2
 have hV:Valid k L:=⟨hj,by omega,by omega⟩
 have hjle:=jnB_le hj.2
 have hj64:=hj.1
 have hky2:keyT (k,L) = jnB L ++ [UInt8.ofInt k]:=hky
 have hkl:(keyT (k,L)).length = N1 + 1:=by rw [hky,zlA,hjl];rfl
 repeat (refine sd ?_)
 refine fun c2 hc2=>?_
 have hc2:N1 + 1 <= c2:=hc2
 repeat (refine sd ?_)
 refine Draw.intro [[],[0],[0,1],[0,1,2],[],[4],[0,1,2,3,4,5],[0,1,2,3,4,5,6],[0,1,2,3,4,5,6,7],[0,1,2,3,4,5,6,7],[0,1,2,3,4,5,6,7,8],[0,1,2,3,4,5,6,7,8,9,10]] [0,1,2,3,4,5,6,7,8,9,10,11] (by kernel_rfl) ?_
 repeat (refine sd ?_)
 have hq:List.take (N1 + 1) (List.drop 0 (dropQ (addI none 0) (jnB L) ++ List.take 1 (List.drop 0 (UInt8.ofInt k :: List.replicate 0 0)))) = keyT (k,L):=by
  rw [hky,dropQ_eq]
  exact List.take_of_length_le (by rw [<- hkl,hky];exact Nat.le_refl _)
 refine zB.intro (fun hs=>?_) (fun hs=>?_)
 ·have hs:(mpGet (mpL T) (List.take (N1 + 1) (List.drop 0 (dropQ (addI none 0) (jnB L) ++ List.take 1 (List.drop 0 (UInt8.ofInt k :: List.replicate 0 0)))))).isSome = true:=hs
  rw [hq] at hs
  obtain ⟨i,hi⟩:∃ i,fdT (k,L) T = i + 1:=by
   cases hf:fdT (k,L) T with
   | zero=>rw [mpL_none hV hTv hf] at hs;cases hs
   | succ i=>exact ⟨i,rfl⟩
  have hmk:mkT T (k,L) = (T,i + 1):=mkT_old hV hi
  have hg:=mpL_some hV hTv hi
  have hil:=fdT_le (k,L) T
  have hN:=fn111 (i + 1) (by omega)
  have hnl:=nameB_length (i + 1)
  repeat (refine sd ?_)
  refine Call.intro hN [] rfl ?_ rfl trivial rfl ?_
  ·show ((i + 1:Nat):Int) = (mpGet (mpL T) (List.take (N1 + 1) (List.drop 0 (dropQ (addI none 0) (jnB L) ++ List.take 1 (List.drop 0 (UInt8.ofInt k :: List.replicate 0 0)))))).getD 0
   rw [hq,hg];rfl
  rintro v M' ⟨rfl,rfl⟩
  dsimp only [zt,zM,zE,ren,zz,zx,zy,look,zG,zX,ev,evL,zV,zcT,zcF,act,zP,zO,Ent.zW]
  repeat (refine sd ?_)
  refine Ret.intro (.tup [.a8 (nameB (i + 1)),.bool ((mkT T (k,L)).2 ≠ 0)]) [(1001,.dead),(1000,.mem true 0 [(1,.sl 1005 0 0 n c),(1,.mp 1002)]),(1005,.mem true (zmE (c - n) 3) [(n * 3,.arr n 3 (ttF T))]),(1002,.map (.si (mpL T))),(1003,.mem false 0 [(m * 1,.arr m 1 (rwF L))])] [(1005,(1001,0,none))] rfl ?_ ⟨n,c,by rw [hmk];exact hT,hnc,by rw [hmk];rfl,by rw [hmk];rfl⟩ rfl ?_ rfl ?_ rfl
  ·exact fc
  ·exact fc
  ·exact fc
 have hs:¬ (mpGet (mpL T) (List.take (N1 + 1) (List.drop 0 (dropQ (addI none 0) (jnB L) ++ List.take 1 (List.drop 0 (UInt8.ofInt k :: List.replicate 0 0)))))).isSome = true:=hs
 rw [hq] at hs
 have hi:fdT (k,L) T = 0:=by
  cases hf:fdT (k,L) T with
  | zero=>rfl
  | succ i=>rw [mpL_some hV hTv hf] at hs;exact absurd rfl hs
 have hg:=mpL_none hV hTv hi
 have hmk:mkT T (k,L) = (T ++ [(k,L)],n + 1):=by
  rw [mkT_new hV hi,hT]
 repeat (refine sd ?_)
 refine zB.intro (fun h=>absurd h (by omega)) (fun _=>?_)
 repeat (refine sd ?_)
 refine Loop.intro (σ:=Nat × Nat × Nat) (fun s=>s.1 <= m/\s.1 <= s.2.1/\s.1 <= s.2.2)
  (fun s=>([(0,.ptr 1000 0 none),(6,.ptr 6 0 none),(8,.sl 208 0 0 (N1 + 1) c2),(12,.ptr 12 0 none),(58,.slx 1003 0 0 m),(59,.i .i64 (m:Int)),(60,.i .i64 (s.1:Int))],[(1000,.mem true 0 [(1,.sl 1001 0 0 n c),(1,.mp 1002)]),(1001,.mem true (zmE (c - n) 3) [(n * 3,.arr n 3 (ttF T))]),(1002,.map (.si (mpL T))),(1003,.mem false 0 [(m * 1,.arr m 1 (rwF L))]),(6,.mem true 0 [(32,.a8 (List.replicate 32 0))]),
   (208,.mem true (c2 - (N1 + 1)) [(N1 + 1,.a8 (keyT (k,L)))]),(12,.mem true 0 [(1,.i .i64 k),(1,.sl 206 0 0 s.1 s.2.1),(1,.sl 207 0 0 s.1 s.2.2)]),(206,.mem true (s.2.1 - s.1) [(s.1 * 1,.arr s.1 1 (rwF L))]),(207,.mem true (s.2.2 - s.1) [(s.1 * 1,.arr s.1 1 (nwF n L))])]))
  (fun s=>m - s.1) (0,0,0) ⟨Nat.zero_le _,Nat.le_refl _,Nat.le_refl _⟩ ?_ ?_
 ·refine Le.ghost [.own 206 [(0,.arr 0 1 (rwF L))],.own 207 [(0,.arr 0 1 (nwF n L))],.leaf 12 1 206,.leaf 12 2 207] [] [(208,(35,0,none))] rfl ⟨⟨rfl,rfl,trivial⟩,⟨rfl,rfl,trivial⟩⟩ rfl rfl ?_ rfl ?_ rfl
  ·exact fc
  ·repeat' (first | (show zA _;first | exact trivial | refine zA.app ?_ ?_ | refine zA.zd ?_ ?_ | refine zA.cons ?_ ?_) | exact fd | fail)
   all_goals (rw [hky];exact rfl)
 rintro ⟨i2,ca,cb⟩ ⟨hi2,hca,hcb⟩
 have hi2:i2 <= m:=hi2
 have hca:i2 <= ca:=hca
 have hcb:i2 <= cb:=hcb
 repeat (refine sd ?_)
 refine zB.intro (fun hc=>?_) (fun hc=>?_)
 ·have hc:(i2:Int) < m:=hc
  have hll:=hLs _ (getD_mem [] (L:=L) (i:=i2) (by omega))
  repeat (refine sdn ?_)
  refine Draw.intro [[],[0],[],[],[2,3],[2,3,4],[0,1,2,3,4,5],[0,1,2,3,4,5,6],[0,1,2,3,4,5,6,7]] [0,1,2,3,4,5,6,7,8] (by kernel_rfl) ?_
  repeat (refine sdn ?_)
  refine fun c3 hc3=>?_
  repeat (refine sdn ?_)
  refine Grow.intro [(68,.mem true (c3 - (0 + (L.getD i2 []).length)) [(0 + (L.getD i2 []).length,.a8 ([] ++ (L.getD i2 []).take (L.getD i2 []).length))]),(66,.dead)] rfl rfl ?_
  repeat (refine sdn ?_)
  refine fun c4 hc4=>?_
  repeat (refine sdn ?_)
  have hI:=fn112 (L.getD i2 []) (L.getD i2 []).length rfl n (by omega) hll
  refine Draw.intro [[],[0],[],[],[3],[3,4],[3,4,5],[3,4,5,6],[2,3,4,5,6,7],[2,3,4,5,6,7,8],[0,1,2,3,4,5,6,7,8,9],[0,1,2,3,4,5,6,7,8,9,10],[0,1,2,3,4,5,6,7,8,9,10,11]] [0,1,2,3,4,5,6,7,8,9,10,11,12] (by kernel_rfl) ?_
  repeat (refine sdn ?_)
  refine Call.name [(2001,[]),(0,[])] rfl trivial (CallP.intro hI [(1003,(2001,0,none)),(1001,(301,0,none))] rfl fcn rfl fcn rfl ?_)
  rintro v M' ⟨l,cl,rfl,hlc,rfl,rfl⟩
  dsimp only [zt,zM,zE,ren,zz,zx,zy,look,zG,zX,ev,evL,zV,zcT,zcF,act,zP,zO,Ent.zW]
  have htl:=toI_len (inL (L.getD i2 []) n 0)
  refine Grow.intro [(301,.mem true (cl - (toI (inL (L.getD i2 []) n 0)).length) [((toI (inL (L.getD i2 []) n 0)).length,.ai (toI (inL (L.getD i2 []) n 0)))]),(2001,.mem false 1 [((L.getD i2 []).length * 1,.a8 (L.getD i2 []))])] rfl rfl ?_
  repeat (refine sdn ?_)
  refine fun c5 hc5=>?_
  repeat (refine sdn ?_)
  have hc4:i2 + 1 <= c4:=hc4
  have hc5:i2 + 1 <= c5:=hc5
  refine ⟨(i2 + 1,c4,c5),⟨by show i2 + 1 <= m;omega,hc4,hc5⟩,by show m - (i2 + 1) < m - i2;omega,Le.intro [(206,(70,0,none)),(207,(82,0,none))] rfl ?_ rfl ?_ rfl⟩
  ·exact fcn
  ·repeat' (first | (show zA _;first | exact trivial | refine zA.app ?_ ?_ | refine zA.zd ?_ ?_ | refine zA.cons ?_ ?_) | exact fdn | fail)
   ·refine appF_row (fun q _=>by rw [shiftF_eq,Nat.zero_add]) ?_
    simp only [zme,dropQ_eq,List.drop_zero,Ix.val,zQ,Nat.zero_add,zIn,List.nil_append,List.take_length,Nat.mul_one,rwF]
   ·refine appF_row (fun q _=>by rw [shiftF_eq,Nat.zero_add]) ?_
    simp only [zme,dropQ_eq,List.drop_zero,Ix.val,zQ,Nat.zero_add,zIn,List.nil_append,List.take_length,Nat.mul_one,nwF,toI_len]
    exact rfl
 have hc:¬ (i2:Int) < m:=hc
 obtain rfl:i2 = m:=by omega
 repeat (refine sdn ?_)
 refine Draw.intro [[],[],[1],[1,2],[1,2,3],[],[5],[1,2,3,4,5,6],[0,1,2,3,4,5,6,7],[0,1,2,3,4,5,6,7,8],[0,1,2,3,4,5,6,7,8,9]] [0,1,2,3,4,5,6,7,8,9,10] (by kernel_rfl) ?_
 repeat (refine sdn ?_)
 refine fun c6 hc6=>?_
 repeat (refine sdn ?_)
 have hc6:n + 1 <= c6:=hc6
 have hq2:List.take (N1 + 1) (List.drop 0 (keyT (k,L))) = keyT (k,L):=List.take_of_length_le (by rw [<- hkl];exact Nat.le_refl _)
 refine Draw.intro [[],[0],[0,1],[0,1,2],[],[4],[],[6],[6,7],[6,7,8],[6,7,8,9],[0,1,2,3,4,5,6,7,8,9,10]] [0,1,2,3,4,5,6,7,8,9,10,11] (by kernel_rfl) ?_
 repeat (refine Side.intro (by repeat' (first | (show zA _;first | exact trivial | refine zA.app ?_ ?_ | refine zA.zd ?_ ?_ | refine zA.cons ?_ ?_) | with_reducible rfl | with_reducible assumption | omega | (simp only [hq2,hg,rng,Ix.val,zQ,addI,szs] <;> omega) | (simp only [hq2,hg,rng,Ix.val,zIn,zme,zQ,addI,Option.getD_none,Option.getD_some,zlT,zlD,zlA,List.length_set,List.length_replicate,szs, *] <;> omega) | (simp only [Ix.val];with_reducible assumption) | exact UInt8.toNat_lt _ | (apply Eq.trans;(with_reducible assumption);exact rfl) | exact rfl | exact fun _ _=>rfl)) ?_)
 have hN:=fn111 (n + 1) (by omega)
 have hnl:=nameB_length (n + 1)
 refine Call.intro hN [] rfl fc rfl trivial rfl ?_
 rintro v M' ⟨rfl,rfl⟩
 dsimp only [zt,zM,zE,ren,zz,zx,zy,look,zG,zX,ev,evL,zV,zcT,zcF,act,zP,zO,Ent.zW]
 repeat (refine sd ?_)
 have happ:=mpL_app T (k,L)
 rw [hT] at happ
 refine Ret.intro (.tup [.a8 (nameB (n + 1)),.bool ((mkT T (k,L)).2 ≠ 0)]) [(1001,.dead),(1000,.mem true 0 [(1,.sl 1005 0 0 (n + 1) c6),(1,.mp 1002)]),(1005,.mem true (zmE (c6 - (n + 1)) 3) [((n + 1) * 3,.arr (n + 1) 3 (ttF (T ++ [(k,L)])))]),(1002,.map (.si (mpL (T ++ [(k,L)])))),(1003,.mem false 0 [(i2 * 1,.arr i2 1 (rwF L))])] [(1005,(92,0,none))] rfl ?_ ⟨n + 1,c6,by rw [hmk];simp [hT],hc6,by rw [hmk];rfl,by rw [hmk];rfl⟩ rfl ?_ rfl ?_ rfl
 ·exact fc
 ·exact fc
 ·repeat' (first | (show zA _;first | exact trivial | refine zA.app ?_ ?_ | refine zA.zd ?_ ?_ | refine zA.cons ?_ ?_) | exact fd | fail)
  ·refine appF_row (fun q hq=>ttF_lt (by omega)) ?_
   subst hT
   subst hL
   exact ttF_at T (k,L)
  ·rw [hq2];exact happ
@[irreducible] def hx1 (_lab:UInt8) (_p:List UInt8):List UInt8:=List.replicate 32 0
@[irreducible] def hx2 (_lab:UInt8) (_p _q:List UInt8):List UInt8:=List.replicate 32 0
theorem hx1_len (lab:UInt8) (p:List UInt8):(hx1 lab p).length = 32:=by unfold hx1;rfl
end Go.Proofs.YtfnmgbillkiabaaGreat
