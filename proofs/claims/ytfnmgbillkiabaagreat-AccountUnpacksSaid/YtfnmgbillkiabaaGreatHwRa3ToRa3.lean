/- What the functions of the program compute. No condition. -/
import Derived.Test.YtfnmgbillkiabaaGreatHwRa2ToRa2
set_option linter.unusedSimpArgs false
set_option linter.unusedVariables false
set_option maxRecDepth 100000
namespace Go.Proofs.YtfnmgbillkiabaaGreat
open Go Go.Sx
theorem rw_app {x:List UInt8} {A:List (List UInt8)} {k m:Nat} (hk:A.length = k) (hm:x.length = m):∀ q,q < k + 1->rwF (A ++ [x]) q = appF k (rwF A) (rowF [[(1,.isl 0 m 1 [(m,.a8 x)])]]) q:=by
 subst hk;subst hm
 intro q hq
 rcases Nat.lt_or_ge q A.length with h | h
 ·rw [appF_lt h];unfold rwF;rw [getD_app_lt [] h]
 ·obtain rfl:q = A.length:=by omega
  rw [appF_ge h];unfold rwF;rw [getD_app_at,Nat.sub_self,Nat.mul_one];rfl
set_option maxHeartbeats 1000000 in
theorem fn79 (L:List (List UInt8)) (n c:Nat) (hL:L.length = n) (hn:n <= 1000) (hnc:n <= c) (k:List UInt8) (hk:k.length = 32) :
  Sx.Fn Γ.P 79 [.ptr 1000 0 none,.a8 k] [(1000,.mem true 0 [(1,.sl 1001 0 0 n c),(1,.ff)]),(1001,.mem true (zmE (c - n) 1) [(n * 1,.arr n 1 (rwF L))])]
  (fun v M=>∃ c',n + 1 <= c'/\v = .tup []/\M = [(1001,.dead),(1000,.mem true 0 [(1,.sl 1005 0 0 (n + 1) c'),(1,.ff)]),(1005,.mem true (zmE (c' - (n + 1)) 1) [((n + 1) * 1,.arr (n + 1) 1 (rwF (L ++ [k])))])]):=by
 refine fn_cut [1] (Γ:=Γ) (fn:=Tryz.f79) rfl rfl rfl rfl ?_
 repeat (refine sd ?_)
 refine Cut.intro (σ:=Unit) (fun _=>True) (fun _=>([(0,.ptr 1000 0 none),(3,.iep 0 0 1 [(32,.a8 k)])],[(1000,.mem true 0 [(1,.sl 1001 0 0 n c),(1,.ff)]),(1001,.mem true (zmE (c - n) 1) [(n * 1,.arr n 1 (rwF L))])])) () trivial (Le.ghost [.keep 3] [(3,0)] [] rfl ?_ rfl rfl ?_ rfl ?_ rfl) ?_
 ·exact fc
 ·exact fc
 ·exact fc
 rintro - -
 refine Draw.intro [[],[],[1],[1,2],[1,2,3],[],[5],[1,2,3,4,5,6],[0,1,2,3,4,5,6,7],[0,1,2,3,4,5,6,7,8],[0,1,2,3,4,5,6,7,8,9]] [0,1,2,3,4,5,6,7,8,9,10] (by kernel_rfl) ?_
 repeat (refine sd ?_)
 refine fun c' hc'=>?_
 have hc':n + 1 <= c':=hc'
 repeat (refine sd ?_)
 refine Ret.intro (.tup []) [(1001,.dead),(1000,.mem true 0 [(1,.sl 1005 0 0 (n + 1) c'),(1,.ff)]),(1005,.mem true (zmE (c' - (n + 1)) 1) [((n + 1) * 1,.arr (n + 1) 1 (rwF (L ++ [k])))])] [(1005,(11,0,none))] rfl ?_ ⟨c',hc',rfl,rfl⟩ rfl ?_ rfl ?_ rfl
 ·exact fc
 ·exact fc
 ·repeat' (first | (show zA _;first | exact trivial | refine zA.app ?_ ?_ | refine zA.zd ?_ ?_ | refine zA.cons ?_ ?_) | exact fd | fail)
  all_goals exact rw_app hL hk
set_option maxHeartbeats 1000000 in
theorem fn80 (L:List (List UInt8)) (n c:Nat) (hL:L.length = n) (hn:n <= 1000) (hnc:n <= c) (x:UInt64) (s:Nat) (h1:1 <= s) (h8:s <= 8) (hx:s < 8->shr64 x (8 * s) = 0) :
  Sx.Fn Γ.P 80 [.ptr 1000 0 none,.u64 x,.i .i64 (s:Int)] [(1000,.mem true 0 [(1,.sl 1001 0 0 n c),(1,.ff)]),(1001,.mem true (zmE (c - n) 1) [(n * 1,.arr n 1 (rwF L))])]
  (fun v M=>∃ c',n + 1 <= c'/\v = .tup []/\M = [(1001,.dead),(1000,.mem true 0 [(1,.sl 1005 0 0 (n + 1) c'),(1,.ff)]),(1005,.mem true (zmE (c' - (n + 1)) 1) [((n + 1) * 1,.arr (n + 1) 1 (rwF (L ++ [putB x.toNat s])))])]):=by
 have hP:=fn67 x s h1 h8 hx
 obtain ⟨B,hB⟩:∃ B,putB x.toNat s = B:=⟨_,rfl⟩
 have hBl:B.length = s:=by rw [<- hB,putB_length]
 rw [hB] at hP ⊢
 refine fn_cut [1] (Γ:=Γ) (fn:=Tryz.f80) rfl rfl rfl rfl ?_
 repeat (refine sd ?_)
 refine Call.intro hP [(1001,(301,0,none))] rfl ?_ rfl ?_ rfl ?_
 ·exact fc
 ·exact fc
 rintro v M' ⟨rfl,rfl⟩
 dsimp only [zt,zM,zE,ren,zz,zx,zy,look,zG,zX,ev,evL,zV,zcT,zcF,act,zP,zO,Ent.zW]
 repeat (refine sd ?_)
 refine Cut.intro (σ:=Unit) (fun _=>True) (fun _=>([(0,.ptr 1000 0 none),(6,.isl 0 s 1 [(s,.a8 B)])],[(1000,.mem true 0 [(1,.sl 1001 0 0 n c),(1,.ff)]),(1001,.mem true (zmE (c - n) 1) [(n * 1,.arr n 1 (rwF L))])])) () trivial (Le.ghost [.keep 301] [(6,0)] [] rfl ?_ rfl rfl ?_ rfl ?_ rfl) ?_
 ·exact fc
 ·exact fc
 ·exact fc
 rintro - -
 repeat (refine sd ?_)
 refine fun c' hc'=>?_
 have hc':n + 1 <= c':=hc'
 repeat (refine sd ?_)
 refine Ret.intro (.tup []) [(1001,.dead),(1000,.mem true 0 [(1,.sl 1005 0 0 (n + 1) c'),(1,.ff)]),(1005,.mem true (zmE (c' - (n + 1)) 1) [((n + 1) * 1,.arr (n + 1) 1 (rwF (L ++ [B])))])] [(1005,(21,0,none))] rfl ?_ ⟨c',hc',rfl,rfl⟩ rfl ?_ rfl ?_ rfl
 ·exact fc
 ·exact fc
 ·repeat' (first | (show zA _;first | exact trivial | refine zA.app ?_ ?_ | refine zA.zd ?_ ?_ | refine zA.cons ?_ ?_) | exact fd | fail)
  all_goals exact rw_app hL hBl
theorem fn81 (L:List (List UInt8)) (n c:Nat) (hL:L.length = n) (hn:n <= 1000) (hnc:n <= c) (hJ:Joins L) :
  Sx.Fn Γ.P 81 [.ptr 1000 0 none] [(1000,.mem true 0 [(1,.sl 1001 0 0 n c),(1,.ff)]),(1001,.mem true (zmE (c - n) 1) [(n * 1,.arr n 1 (rwF L))])]
  (fun v M=>∃ m c',(jnB L).length = m/\m <= c'/\v = .tup [.sl 1005 0 0 m c',.tt]/\M = [(1000,.dead),(1001,.dead),(1005,.mem true (c' - m) [(m,.a8 (jnB L))])]):=by
 have hJn:=fn68 L n hL (by omega) (fun x hx=>by have:=hJ.2 x hx;omega)
 unfold rwS at hJn
 refine fn_of (Γ:=Γ) (fn:=Tryz.f81) rfl rfl rfl rfl ?_
 repeat (refine sd ?_)
 refine Call.intro hJn [(1003,(1001,0,none)),(1001,(305,0,none))] rfl ?_ rfl ?_ rfl ?_
 ·exact fc
 ·exact fc
 rintro v M' (⟨hnj,rfl,rfl⟩ | ⟨c1,m,hj,hjl,hjc,rfl,rfl⟩)
 ·exact absurd hJ hnj
 dsimp only [zt,zM,zE,ren,zz,zx,zy,look,zG,zX,ev,evL,zV,zcT,zcF,act,zP,zO,Ent.zW]
 repeat (first | (refine zB.intro (fun _=>?_) (fun hn=>absurd rfl hn)) | (refine ky0 ?_) | (refine kn0 ?_) | (refine sd ?_))
 refine Ret.intro (.tup [.sl 1005 0 0 m c1,.tt]) [(1000,.dead),(1001,.dead),(1005,.mem true (c1 - m) [(m,.a8 (jnB L))])] [(1005,(305,0,none))] rfl ?_ ⟨m,c1,hjl,hjc,rfl,rfl⟩ rfl ?_ rfl ?_ rfl
 ·exact fc
 ·exact fc
 ·exact fc
end Go.Proofs.YtfnmgbillkiabaaGreat
