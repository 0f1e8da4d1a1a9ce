/- What the functions of the program compute. No condition. -/
import Derived.Test.YtfnmgbillkiabaaGreatHwTm7ToTm7
set_option linter.unusedSimpArgs false
set_option linter.unusedVariables false
set_option maxRecDepth 100000
namespace Go.Proofs.YtfnmgbillkiabaaGreat
open Go Go.Sx
abbrev Te:=Int × List (List UInt8)
def te0:Te:=(0,[])
def prS (L:List (List UInt8)):SV:=.isl 0 L.length 1 [(L.length * 1,.arr L.length 1 (rwF L))]
def rtF (T:List Te) (q:Nat):List (Nat × SV):=[(1,.i .i64 (T.getD q te0).1),(1,prS (T.getD q te0).2)]
def Valid (k:Int) (L:List (List UInt8)):Prop:=Joins L/\1 <= k/\k <= 8
instance (k:Int) (L:List (List UInt8)):Decidable (Valid k L):=inferInstanceAs (Decidable (_/\_/\_))
def fdT (x:Te):List Te->Nat
 | []=>0
 | y :: r=>if y = x then 1 else match fdT x r with
  | 0=>0
  | i + 1=>i + 2
theorem fdT_at {x:Te}:∀ {T:List Te} {i:Nat},i < T.length->T.getD i te0 = x->(∀ j,j < i->T.getD j te0 ≠ x)->fdT x T = i + 1
 | y :: r,0,_,h,_=>by
  unfold fdT
  rw [if_pos (show y = x from h)]
 | y :: r,i + 1,hi,h,hn=>by
  unfold fdT
  rw [if_neg (show ¬ y = x from fun e=>hn 0 (by omega) e),fdT_at (T:=r) (i:=i) (by simpa using hi) h (fun j hj=>hn (j + 1) (by omega))]
theorem fdT_none {x:Te}:∀ {T:List Te},(∀ j,j < T.length->T.getD j te0 ≠ x)->fdT x T = 0
 | [],_=>rfl
 | y :: r,h=>by
  unfold fdT
  rw [if_neg (show ¬ y = x from fun e=>h 0 (by simp) e),fdT_none (T:=r) (fun j hj=>h (j + 1) (by simpa using hj))]
theorem fdT_le (x:Te):∀ T:List Te,fdT x T <= T.length
 | []=>Nat.le_refl _
 | y :: r=>by
  have:=fdT_le x r
  unfold fdT
  split
  ·simp
  ·split
   ·simp
   ·rename_i i h;rw [h] at this;simp only [List.length_cons];omega
@[irreducible] def mkT (T:List Te) (x:Te):List Te × Nat:=if Valid x.1 x.2 then match fdT x T with
 | 0=>(T ++ [x],T.length + 1)
 | i + 1=>(T,i + 1)
 else (T,0)
theorem mkT_no {T:List Te} {x:Te} (h:¬ Valid x.1 x.2):mkT T x = (T,0):=by unfold mkT;rw [if_neg h]
theorem mkT_old {T:List Te} {x:Te} {i:Nat} (h:Valid x.1 x.2) (hf:fdT x T = i + 1):mkT T x = (T,i + 1):=by unfold mkT;rw [if_pos h,hf]
theorem mkT_new {T:List Te} {x:Te} (h:Valid x.1 x.2) (hf:fdT x T = 0):mkT T x = (T ++ [x],T.length + 1):=by unfold mkT;rw [if_pos h,hf]
def kyB (o:Nat):List UInt8:=match o with
 | 0=>List.replicate 32 0
 | i + 1=>nameB (i + 1)
theorem zk:∀ o,(kyB o).length = 32
 | 0=>rfl
 | i + 1=>nameB_length _
theorem appF_row {n:Nat} {F H:Nat->List (Nat × SV)} {c:List (Nat × SV)} (h1:∀ q,q < n->H q = F q) (h2:H n = c):∀ q,q < n + 1->H q = appF n F (rowF [c]) q:=by
 intro q hq
 rcases Nat.lt_or_ge q n with h | h
 ·rw [appF_lt h,h1 q h]
 ·obtain rfl:q = n:=by omega
  rw [appF_ge h,h2]
  rfl
theorem getD_app_lt {α:Type} (d:α) {T:List α} {x:α} {q:Nat} (h:q < T.length):(T ++ [x]).getD q d = T.getD q d:=by
 rw [List.getD_eq_getElem?_getD,List.getD_eq_getElem?_getD,List.getElem?_append_left h]
theorem getD_app_at {α:Type} (d:α) (T:List α) (x:α):(T ++ [x]).getD T.length d = x:=by
 rw [List.getD_eq_getElem?_getD,List.getElem?_append_right (Nat.le_refl _),Nat.sub_self]
 rfl
theorem rtF_lt {T:List Te} {x:Te} {q:Nat} (h:q < T.length):rtF (T ++ [x]) q = rtF T q:=by
 unfold rtF;rw [getD_app_lt te0 h]
theorem rtF_at (T:List Te) (x:Te):rtF (T ++ [x]) T.length = [(1,.i .i64 x.1),(1,prS x.2)]:=by
 unfold rtF;rw [getD_app_at]
def M12 (n c:Nat) (T:List Te) (a m:Nat) (L:List (List UInt8)):Mm:=[(1000,.mem true 0 [(1,.sl a 0 0 n c)]),(a,.mem true (zmE (c - n) 2) [(n * 2,.arr n 2 (rtF T))]),(1003,.mem false 0 (rwS m L))]
set_option maxHeartbeats 1000000 in
theorem fn36 (T:List Te) (n c:Nat) (hT:T.length = n) (hn:n <= 60000) (hnc:n <= c) (hTs:∀ x ∈ T,x.2.length <= 1000000) (k:Int) (L:List (List UInt8)) (m:Nat) (hL:L.length = m) (hm1:m <= 1000000) (hLs:∀ x ∈ L,x.length <= 1000000) :
  Sx.Fn Γ.P 36 [.ptr 1000 0 none,.i .i64 k,.slx 1003 0 0 m] (M12 n c T 1001 m L)
  (fun v M=>∃ n' c',(mkT T (k,L)).1.length = n'/\n' <= c'/\v = .tup [.a8 (kyB (mkT T (k,L)).2),.bool ((mkT T (k,L)).2 ≠ 0)]/\M = (1001,.dead) :: M12 n' c' (mkT T (k,L)).1 1005 m L):=by
 have hJ:=fn70 L m hL hm1 hLs
 unfold rwS rwF at hJ
 unfold M12 rwS rwF
 refine fn_of (Γ:=Γ) (fn:=Tryz.f36) rfl rfl rfl rfl ?_
 repeat (refine sd ?_)
 refine Call.intro hJ [(1003,(1003,0,none)),(1001,(300,0,none))] rfl fc rfl fc rfl ?_
 rintro v M' (⟨hnj,rfl,rfl⟩ | ⟨c1,N1,hj,hjl,hjc,rfl,rfl⟩)
 ·have hmk:mkT T (k,L) = (T,0):=mkT_no fun h=>hnj h.1
  dsimp only [zt,zM,zE,ren,zz,zx,zy,look,zG,zX,ev,evL,zV,zcT,zcF,act,zP,zO,Ent.zW]
  repeat (refine sd ?_)
  refine Ret.intro (.tup [.a8 (List.replicate 32 0),.bool ((mkT T (k,L)).2 ≠ 0)]) [(1001,.dead),(1000,.mem true 0 [(1,.sl 1005 0 0 n c)]),(1005,.mem true (zmE (c - n) 2) [(n * 2,.arr n 2 (rtF T))]),(1003,.mem false 0 [(m * 1,.arr m 1 (rwF L))])] [(1005,(1001,0,none))] rfl ?_ ⟨n,c,by rw [hmk];exact hT,hnc,by rw [hmk];rfl,by rw [hmk];rfl⟩ rfl ?_ rfl ?_ rfl
  ·exact fc
  ·exact fc
  ·exact fc
 dsimp only [zt,zM,zE,ren,zz,zx,zy,look,zG,zX,ev,evL,zV,zcT,zcF,act,zP,zO,Ent.zW]
 repeat (refine sd ?_)
 refine zB.intro (fun h1=>?_) (fun h1=>?_)
 ·have h1:k < 1:=h1
  have hmk:mkT T (k,L) = (T,0):=mkT_no fun h=>by have:=h.2.1;simp only at this;omega
  repeat (refine sd ?_)
  refine Ret.intro (.tup [.a8 (List.replicate 32 0),.bool ((mkT T (k,L)).2 ≠ 0)]) [(1001,.dead),(1000,.mem true 0 [(1,.sl 1005 0 0 n c)]),(1005,.mem true (zmE (c - n) 2) [(n * 2,.arr n 2 (rtF T))]),(1003,.mem false 0 [(m * 1,.arr m 1 (rwF L))])] [(1005,(1001,0,none))] rfl ?_ ⟨n,c,by rw [hmk];exact hT,hnc,by rw [hmk];rfl,by rw [hmk];rfl⟩ rfl ?_ rfl ?_ rfl
  ·exact fc
  ·exact fc
  ·exact fc
 have h1:¬ k < 1:=h1
 refine zB.intro (fun h2=>?_) (fun h2=>?_)
 ·have h2:k > 8:=h2
  have hmk:mkT T (k,L) = (T,0):=mkT_no fun h=>by have:=h.2.2;simp only at this;omega
  repeat (refine sd ?_)
  refine Ret.intro (.tup [.a8 (List.replicate 32 0),.bool ((mkT T (k,L)).2 ≠ 0)]) [(1001,.dead),(1000,.mem true 0 [(1,.sl 1005 0 0 n c)]),(1005,.mem true (zmE (c - n) 2) [(n * 2,.arr n 2 (rtF T))]),(1003,.mem false 0 [(m * 1,.arr m 1 (rwF L))])] [(1005,(1001,0,none))] rfl ?_ ⟨n,c,by rw [hmk];exact hT,hnc,by rw [hmk];rfl,by rw [hmk];rfl⟩ rfl ?_ rfl ?_ rfl
  ·exact fc
  ·exact fc
  ·exact fc
 have h2:¬ k > 8:=h2
 have hV:Valid k L:=⟨hj,by omega,by omega⟩
 repeat (refine sd ?_)
 refine Loop.intro (σ:=Nat) (fun i=>i <= n/\∀ j,j < i->T.getD j te0 ≠ (k,L))
  (fun i=>([(0,.ptr 1000 0 none),(1,.i .i64 k),(2,.slx 1003 0 0 m),(6,.ptr 6 0 none),(10,.i .i64 (i:Int))],[(1000,.mem true 0 [(1,.sl 1001 0 0 n c)]),(1001,.mem true (zmE (c - n) 2) [(n * 2,.arr n 2 (rtF T))]),(1003,.mem false 0 [(m * 1,.arr m 1 (rwF L))]),(6,.mem true 0 [(32,.a8 (List.replicate 32 0))])]))
  (fun i=>n - i) 0 ⟨Nat.zero_le _,fun j hj=>absurd hj (Nat.not_lt_zero _)⟩ ?_ ?_
 ·refine Le.intro [] rfl ?_ rfl ?_ rfl
  ·exact fc
  ·exact fc
 rintro i ⟨hi,hne⟩
 have hi:i <= n:=hi
 repeat (refine sd ?_)
 refine zB.intro (fun hc=>?_) (fun hc=>?_)
 ·have hc:(i:Int) < n:=hc
  unfold rtF
  repeat (refine sdn ?_)
  refine zB.intro (fun h3=>?_) (fun h3=>?_)
  ·have h3:(T.getD i te0).1 = k:=h3
   have hB:=fn76 (T.getD i te0).2 L _ m rfl hL (hTs _ (getD_mem te0 (by omega))) hm1
   have hlen:=hTs _ (getD_mem te0 (L:=T) (i:=i) (by omega))
   unfold rwS at hB
   repeat (refine sdn ?_)
   refine Call.name [(2000,[]),(0,[])] rfl trivial (CallP.intro hB [(1003,(2000,0,none)),(1004,(1003,0,none))] rfl fcn rfl fcn rfl ?_)
   rintro v M' ⟨⟨heq,rfl⟩ | ⟨heq,rfl⟩,rfl⟩
   ·have hat:T.getD i te0 = (k,L):=Prod.ext h3 heq
    have hmk:mkT T (k,L) = (T,i + 1):=mkT_old hV (fdT_at (by omega) hat hne)
    have hN:=fn77 (i + 1) (by omega)
    have hnl:=nameB_length (i + 1)
    dsimp only [zt,zM,zE,ren,zz,zx,zy,look,zG,zX,ev,evL,zV,zcT,zcF,act,zP,zO,Ent.zW]
    repeat (refine sdn ?_)
    refine Call.intro hN [] rfl fc rfl trivial rfl ?_
    rintro v M' ⟨rfl,rfl⟩
    dsimp only [zt,zM,zE,ren,zz,zx,zy,look,zG,zX,ev,evL,zV,zcT,zcF,act,zP,zO,Ent.zW]
    repeat (refine sd ?_)
    refine Ret.intro (.tup [.a8 (nameB (i + 1)),.bool ((mkT T (k,L)).2 ≠ 0)]) [(1001,.dead),(1000,.mem true 0 [(1,.sl 1005 0 0 n c)]),(1005,.mem true (zmE (c - n) 2) [(n * 2,.arr n 2 (rtF T))]),(1003,.mem false 0 [(m * 1,.arr m 1 (rwF L))])] [(1005,(1001,0,none))] rfl ?_ ⟨n,c,by rw [hmk];exact hT,hnc,by rw [hmk];rfl,by rw [hmk];rfl⟩ rfl ?_ rfl ?_ rfl
    ·exact fc
    ·exact fc
    ·exact fc
   ·dsimp only [zt,zM,zE,ren,zz,zx,zy,look,zG,zX,ev,evL,zV,zcT,zcF,act,zP,zO,Ent.zW]
    repeat (refine sdn ?_)
    refine ⟨i + 1,⟨by omega,fun j hj=>?_⟩,by omega,Le.intro [] rfl ?_ rfl ?_ rfl⟩
    ·rcases Nat.lt_or_ge j i with h | h
     ·exact hne j h
     ·obtain rfl:j = i:=by omega
      intro h4
      exact heq (by rw [h4])
    ·exact fc
    ·exact fc
  ·have h3:¬ (T.getD i te0).1 = k:=h3
   repeat (refine sdn ?_)
   refine ⟨i + 1,⟨by omega,fun j hj=>?_⟩,by omega,Le.intro [] rfl ?_ rfl ?_ rfl⟩
   ·rcases Nat.lt_or_ge j i with h | h
    ·exact hne j h
    ·obtain rfl:j = i:=by omega
     intro h4
     exact h3 (by rw [h4])
   ·exact fc
   ·exact fc
 have hc:¬ (i:Int) < n:=hc
 have hmk:mkT T (k,L) = (T ++ [(k,L)],n + 1):=by
  rw [mkT_new hV (fdT_none fun j hj=>hne j (by omega)),hT]
 clear hne
 repeat (refine sd ?_)
 refine zB.intro (fun h=>absurd h (by omega)) (fun _=>?_)
 repeat (refine sd ?_)
 refine Loop.intro (σ:=Nat × Nat) (fun s=>s.1 <= m/\s.1 <= s.2)
  (fun s=>([(0,.ptr 1000 0 none),(1,.i .i64 k),(2,.slx 1003 0 0 m),(6,.ptr 6 0 none),(11,.sl 204 0 0 s.1 s.2),(12,.i .i64 (s.1:Int))],[(1000,.mem true 0 [(1,.sl 1001 0 0 n c)]),(1001,.mem true (zmE (c - n) 2) [(n * 2,.arr n 2 (rtF T))]),(1003,.mem false 0 [(m * 1,.arr m 1 (rwF L))]),(6,.mem true 0 [(32,.a8 (List.replicate 32 0))]),(204,.mem true (s.2 - s.1) [(s.1 * 1,.arr s.1 1 (rwF L))])]))
  (fun s=>m - s.1) (0,0) ⟨Nat.zero_le _,Nat.le_refl _⟩ ?_ ?_
 ·refine Le.ghost [.own 204 [(0,.arr 0 1 (rwF L))]] [(11,204)] [] rfl ⟨rfl,rfl,trivial⟩ rfl rfl ?_ rfl ?_ rfl
  ·exact fc
  ·exact fc
 rintro ⟨i2,c2⟩ ⟨hi2,hic⟩
 have hi2:i2 <= m:=hi2
 have hic:i2 <= c2:=hic
 repeat (refine sd ?_)
 refine zB.intro (fun hc=>?_) (fun hc=>?_)
 ·have hc:(i2:Int) < m:=hc
  have hll:=hLs _ (getD_mem [] (L:=L) (i:=i2) (by omega))
  repeat (refine sdn ?_)
  refine fun c3 hc3=>?_
  have hc3:(L.getD i2 []).length <= c3:=by have h:0 + (L.getD i2 []).length <= c3:=hc3;omega
  repeat (refine sdn ?_)
  refine fun c4 hc4=>?_
  have hc4:i2 + 1 <= c4:=hc4
  repeat (refine sdn ?_)
  refine ⟨(i2 + 1,c4),⟨by show i2 + 1 <= m;omega,hc4⟩,by show m - (i2 + 1) < m - i2;omega,Le.intro [(204,(85,0,none))] rfl ?_ rfl ?_ rfl⟩
  ·exact fcn
  ·repeat' (first | (show zA _;first | exact trivial | refine zA.app ?_ ?_ | refine zA.zd ?_ ?_ | refine zA.cons ?_ ?_) | exact fdn | fail)
   refine appF_row (fun q _=>by rw [shiftF_eq,Nat.zero_add]) ?_
   simp only [zme,dropQ_eq,List.drop_zero,Ix.val,zQ,Nat.zero_add,zIn,List.nil_append,List.take_length,Nat.mul_one,rwF]
 have hc:¬ (i2:Int) < m:=hc
 obtain rfl:i2 = m:=by omega
 have hN:=fn77 (n + 1) (by omega)
 have hnl:=nameB_length (n + 1)
 repeat (refine sdn ?_)
 refine fun c3 hc3=>?_
 have hc3:n + 1 <= c3:=hc3
 repeat (refine sdn ?_)
 refine Call.intro hN [] rfl fc rfl trivial rfl ?_
 rintro v M' ⟨rfl,rfl⟩
 dsimp only [zt,zM,zE,ren,zz,zx,zy,look,zG,zX,ev,evL,zV,zcT,zcF,act,zP,zO,Ent.zW]
 repeat (refine sd ?_)
 refine Ret.intro (.tup [.a8 (nameB (n + 1)),.bool ((mkT T (k,L)).2 ≠ 0)]) [(1001,.dead),(1000,.mem true 0 [(1,.sl 1005 0 0 (n + 1) c3)]),(1005,.mem true (zmE (c3 - (n + 1)) 2) [((n + 1) * 2,.arr (n + 1) 2 (rtF (T ++ [(k,L)])))]),(1003,.mem false 0 [(i2 * 1,.arr i2 1 (rwF L))])] [(1005,(95,0,none))] rfl ?_ ⟨n + 1,c3,by rw [hmk];simp [hT],hc3,by rw [hmk];rfl,by rw [hmk];rfl⟩ rfl ?_ rfl ?_ rfl
 ·exact fc
 ·exact fc
 ·repeat' (first | (show zA _;first | exact trivial | refine zA.app ?_ ?_ | refine zA.zd ?_ ?_ | refine zA.cons ?_ ?_) | exact fd | fail)
  refine appF_row (fun q hq=>rtF_lt (by omega)) ?_
  subst hT
  subst hL
  exact rtF_at T (k,L)
theorem ofNat8_inj {a b:Nat} (ha:a < 256) (hb:b < 256) (h:UInt8.ofNat a = UInt8.ofNat b):a = b:=by
 have:=congrArg UInt8.toNat h
 rw [UInt8.toNat_ofNat',UInt8.toNat_ofNat',Nat.mod_eq_of_lt (by omega),Nat.mod_eq_of_lt (by omega)] at this
 exact this
theorem ofNat8_mod {a b:Nat} (h:UInt8.ofNat a = UInt8.ofNat b):a % 256 = b % 256:=by
 have:=congrArg UInt8.toNat h
 rw [UInt8.toNat_ofNat',UInt8.toNat_ofNat'] at this
 exact this
theorem jnR_inj:∀ (L K:List (List UInt8)) (s t:List UInt8),L.length = K.length->(∀ x ∈ L,x.length <= 4096)->(∀ x ∈ K,x.length <= 4096)->jnR L ++ s = jnR K ++ t->L = K/\s = t
 | [],[],s,t,_,_,_,h=>⟨rfl,h⟩
 | [],_ :: _,_,_,h,_,_,_=>by simp at h
 | _ :: _,[],_,_,h,_,_,_=>by simp at h
 | x :: r,y :: q,s,t,hl,hx,hy,h=>by
  have hxl:=hx x (List.mem_cons_self ..)
  have hyl:=hy y (List.mem_cons_self ..)
  simp only [jnR,List.cons_append,List.nil_append,List.append_assoc,List.cons.injEq] at h
  obtain ⟨h1,h2,h3⟩:=h
  have e1:=ofNat8_mod h1
  have e2:=ofNat8_mod h2
  have hlen:x.length = y.length:=by omega
  have hxy:x = y/\jnR r ++ s = jnR q ++ t:=List.append_inj h3 hlen
  obtain ⟨h4,h5⟩:=jnR_inj r q s t (by simpa using hl) (fun z hz=>hx z (List.mem_cons_of_mem _ hz)) (fun z hz=>hy z (List.mem_cons_of_mem _ hz)) hxy.2
  exact ⟨by rw [hxy.1,h4],h5⟩
@[irreducible] def keyT (x:Te):List UInt8:=jnB x.2 ++ [UInt8.ofInt x.1]
theorem keyT_eq (x:Te):keyT x = jnB x.2 ++ [UInt8.ofInt x.1]:=by unfold keyT;rfl
theorem kind_inj {a b:Int} (ha:1 <= a/\a <= 8) (hb:1 <= b/\b <= 8) (h:UInt8.ofInt a = UInt8.ofInt b):a = b:=by
 obtain ⟨n,rfl⟩:∃ n:Nat,a = n:=⟨a.toNat,by omega⟩
 obtain ⟨m,rfl⟩:∃ m:Nat,b = m:=⟨b.toNat,by omega⟩
 rw [ofInt8_nat,ofInt8_nat] at h
 rw [ofNat8_inj (by omega) (by omega) h]
theorem keyT_inj {x y:Te} (hx:Valid x.1 x.2) (hy:Valid y.1 y.2) (h:keyT x = keyT y):x = y:=by
 rw [keyT_eq,keyT_eq,jnB_eq,jnB_eq,List.cons_append,List.cons_append,List.cons.injEq] at h
 have h1:x.2.length = y.2.length:=ofNat8_inj (by have:=hx.1.1;omega) (by have:=hy.1.1;omega) h.1
 obtain ⟨h2,h3⟩:=jnR_inj _ _ _ _ h1 hx.1.2 hy.1.2 h.2
 exact Prod.ext (kind_inj hx.2 hy.2 (by simpa using h3)) h2
def mpF:Nat->List Te->List (List UInt8 × Int)
 | _,[]=>[]
 | i,x :: r=>(keyT x,((i + 1:Nat):Int)) :: mpF (i + 1) r
@[irreducible] def mpL (T:List Te):List (List UInt8 × Int):=mpF 0 T
theorem mpF_app:∀ (i:Nat) (T:List Te) (x:Te),mpF i (T ++ [x]) = mpF i T ++ [(keyT x,((i + T.length + 1:Nat):Int))]
 | i,[],x=>rfl
 | i,y :: r,x=>by
  show _ :: mpF (i + 1) (r ++ [x]) = _ :: (mpF (i + 1) r ++ _)
  rw [mpF_app (i + 1) r x]
  simp only [List.length_cons]
  rw [show i + 1 + r.length + 1 = i + (r.length + 1) + 1 by omega]
theorem mpL_app (T:List Te) (x:Te):mpL (T ++ [x]) = mpL T ++ [(keyT x,((T.length + 1:Nat):Int))]:=by
 unfold mpL;rw [mpF_app,Nat.zero_add]
theorem mpL_nil:mpL [] = []:=by unfold mpL;rfl
theorem mpF_get {x:Te} (hx:Valid x.1 x.2):∀ (i:Nat) (T:List Te),(∀ y ∈ T,Valid y.1 y.2)->mpGet (mpF i T) (keyT x) = if fdT x T = 0 then none else some ((i + fdT x T:Nat):Int)
 | i,[],_=>rfl
 | i,y :: r,h=>by
  have ih:=mpF_get hx (i + 1) r (fun z hz=>h z (List.mem_cons_of_mem _ hz))
  by_cases hxy:y = x
  ·subst hxy
   simp only [mpF,mpGet,fdT,if_true]
   rfl
  ·have hk:keyT x ≠ keyT y:=fun e=>hxy (keyT_inj hx (h y (List.mem_cons_self ..)) e).symm
   have h1:mpGet (mpF i (y :: r)) (keyT x) = mpGet (mpF (i + 1) r) (keyT x):=by
    show (if keyT x = keyT y then _ else _) = _
    rw [if_neg hk]
   rw [h1,ih]
   cases hf:fdT x r with
   | zero=>
    have h2:fdT x (y :: r) = 0:=by unfold fdT;rw [if_neg hxy,hf]
    rw [h2,if_pos rfl,if_pos rfl]
   | succ j=>
    have h2:fdT x (y :: r) = j + 2:=by unfold fdT;rw [if_neg hxy,hf]
    rw [h2,if_neg (by omega),if_neg (by omega)]
    congr 1
    omega
theorem mpL_none {T:List Te} {x:Te} (hx:Valid x.1 x.2) (h:∀ y ∈ T,Valid y.1 y.2) (hf:fdT x T = 0):mpGet (mpL T) (keyT x) = none:=by
 unfold mpL;rw [mpF_get hx 0 T h,if_pos hf]
theorem mpL_some {T:List Te} {x:Te} {i:Nat} (hx:Valid x.1 x.2) (h:∀ y ∈ T,Valid y.1 y.2) (hf:fdT x T = i + 1):mpGet (mpL T) (keyT x) = some ((i + 1:Nat):Int):=by
 unfold mpL;rw [mpF_get hx 0 T h,hf,if_neg (by omega),Nat.zero_add]
theorem mkT_valid {T:List Te} {x:Te} (h:∀ y ∈ T,Valid y.1 y.2):∀ y ∈ (mkT T x).1,Valid y.1 y.2:=by
 by_cases hV:Valid x.1 x.2
 ·cases hf:fdT x T with
  | zero=>
   rw [mkT_new hV hf]
   intro y hy
   rcases List.mem_append.1 hy with hy | hy
   ·exact h y hy
   ·obtain rfl:y = x:=by simpa using hy
    exact hV
  | succ i=>rw [mkT_old hV hf];exact h
 ·rw [mkT_no hV];exact h
theorem mkT_len (T:List Te) (x:Te):T.length <= (mkT T x).1.length/\(mkT T x).1.length <= T.length + 1:=by
 by_cases hV:Valid x.1 x.2
 ·cases hf:fdT x T with
  | zero=>rw [mkT_new hV hf];simp
  | succ i=>rw [mkT_old hV hf];simp
 ·rw [mkT_no hV];simp
end Go.Proofs.YtfnmgbillkiabaaGreat
