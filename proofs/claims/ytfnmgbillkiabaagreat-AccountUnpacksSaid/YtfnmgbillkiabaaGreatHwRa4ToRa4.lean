/- What the functions of the program compute. No condition. -/
import Derived.Test.YtfnmgbillkiabaaGreatHwRa3ToRa3
set_option linter.unusedSimpArgs false
set_option linter.unusedVariables false
set_option maxRecDepth 100000
namespace Go.Proofs.YtfnmgbillkiabaaGreat
open Go Go.Sx
structure Hd where
 ss:List UInt8
 fi:Bool
 ag:List UInt8
 sg:List UInt8
 ba:List UInt8
 id:UInt16
 ra:List UInt8
 n:UInt16
 pv:UInt16
structure Hd.OK (h:Hd):Prop where
 ss:h.ss.length = 32
 ag:h.ag.length = 32
 sg:h.sg.length = 32
 ba:h.ba.length = 32
 ra:h.ra.length = 32
def hdV (h:Hd):SV:=.agg [(32,.a8 h.ss),(1,.bool (h.fi = true)),(32,.a8 h.ag),(32,.a8 h.sg),(32,.a8 h.ba),(1,.u16 h.id),(32,.a8 h.ra),(1,.u16 h.n),(1,.u16 h.pv)]
def z32:List UInt8:=List.replicate 32 0
def hdG (h:Hd):Prop:=h.fi = true \/ (h.ag = List.replicate 32 0/\h.sg = List.replicate 32 0/\h.ba = List.replicate 32 0/\h.id = 0)
def hdP (h:Hd):List (List UInt8):=[h.ss,putB (if h.fi = true then 1 else 0) 1,h.ag,h.sg,h.ba,putB h.id.toNat 2,h.ra,putB h.n.toNat 2,putB h.pv.toNat 2]
@[irreducible] def hdB (h:Hd):List UInt8:=jnB (hdP h)
theorem hdB_eq (h:Hd):hdB h = jnB (hdP h):=by unfold hdB;rfl
theorem hdP_ok {h:Hd} (k:h.OK):Joins (hdP h)/\∀ x ∈ hdP h,x.length <= 32:=by
 have a:∀ x ∈ hdP h,x.length <= 32:=by
  intro x hx
  unfold hdP at hx
  simp only [List.mem_cons,List.not_mem_nil,or_false] at hx
  rcases hx with rfl | rfl | rfl | rfl | rfl | rfl | rfl | rfl | rfl
  ·rw [k.ss];omega
  ·rw [putB_length];omega
  ·rw [k.ag];omega
  ·rw [k.sg];omega
  ·rw [k.ba];omega
  ·rw [putB_length];omega
  ·rw [k.ra];omega
  ·rw [putB_length];omega
  ·rw [putB_length];omega
 exact ⟨⟨by unfold hdP;simp,fun x hx=>by have:=a x hx;omega⟩,a⟩
theorem u16_shr (x:UInt16):shr64 x.toUInt64 (8 * 2) = 0:=by
 unfold shr64
 have:=x.toNat_lt
 rw [UInt16.toNat_toUInt64,Nat.shiftRight_eq_div_pow,Nat.div_eq_of_lt (by omega)]
 rfl
theorem b_shr {B:Nat} (h:B <= 1):shr64 (UInt64.ofNat B) (8 * 1) = 0:=by
 have:B = 0 \/ B = 1:=by omega
 rcases this with rfl | rfl <;> rfl
theorem fnWnum2 (L:List (List UInt8)) (n c:Nat) (hL:L.length = n) (hn:n <= 1000) (hnc:n <= c) (x:UInt16) :
  Sx.Fn Γ.P 80 [.ptr 1000 0 none,.u64 x.toUInt64,.i .i64 2] [(1000,.mem true 0 [(1,.sl 1001 0 0 n c),(1,.ff)]),(1001,.mem true (zmE (c - n) 1) [(n * 1,.arr n 1 (rwF L))])]
  (fun v M=>∃ c',n + 1 <= c'/\v = .tup []/\M = [(1001,.dead),(1000,.mem true 0 [(1,.sl 1005 0 0 (n + 1) c'),(1,.ff)]),(1005,.mem true (zmE (c' - (n + 1)) 1) [((n + 1) * 1,.arr (n + 1) 1 (rwF (L ++ [putB x.toNat 2])))])]):=by
 have h:=fn80 L n c hL hn hnc x.toUInt64 2 (by omega) (by omega) (fun _=>u16_shr x)
 rw [UInt16.toNat_toUInt64] at h
 exact h
theorem fnWnum1 (L:List (List UInt8)) (n c:Nat) (hL:L.length = n) (hn:n <= 1000) (hnc:n <= c) (B:Nat) (hB:B <= 1) :
  Sx.Fn Γ.P 80 [.ptr 1000 0 none,.u64 (UInt64.ofNat B),.i .i64 1] [(1000,.mem true 0 [(1,.sl 1001 0 0 n c),(1,.ff)]),(1001,.mem true (zmE (c - n) 1) [(n * 1,.arr n 1 (rwF L))])]
  (fun v M=>∃ c',n + 1 <= c'/\v = .tup []/\M = [(1001,.dead),(1000,.mem true 0 [(1,.sl 1005 0 0 (n + 1) c'),(1,.ff)]),(1005,.mem true (zmE (c' - (n + 1)) 1) [((n + 1) * 1,.arr (n + 1) 1 (rwF (L ++ [putB B 1])))])]):=by
 have h:=fn80 L n c hL hn hnc (UInt64.ofNat B) 1 (by omega) (by omega) (fun _=>b_shr hB)
 rw [UInt64.toNat_ofNat_of_lt' (by have:UInt64.size = 18446744073709551616:=rfl;omega)] at h
 exact h
set_option maxHeartbeats 4000000 in
theorem fn38 (h:Hd) (hk:h.OK):Sx.Fn Γ.P 38 [hdV h] []
  (fun v M=>(¬ hdG h/\v = .tup [.nsl,.ff]/\M = []) \/ ∃ m c',hdG h/\(hdB h).length = m/\m <= c'/\v = .tup [.sl 1005 0 0 m c',.tt]/\M = [(1005,.mem true (c' - m) [(m,.a8 (hdB h))])]):=by
 have hJ:=(hdP_ok hk).1
 obtain ⟨h1,h2,h3,h4,h5⟩:=hk
 unfold hdV
 refine fn_cut [7] (Γ:=Γ) (fn:=Tryz.f38) rfl rfl rfl rfl ?_
 repeat (refine sd ?_)
 by_cases c0:h.fi = true
 ·have hG:hdG h:=Or.inl c0
  repeat (first | (refine zB.intro (fun h=>False.elim (by revert h;first | (simp [c0];done) | fail)) (fun _=>?_)) | (refine zB.intro (fun _=>?_) (fun h=>False.elim (by revert h;first | (simp [c0];done) | fail))) | (refine sd ?_))
  have hPB:(((((((((([]:List (List UInt8)) ++ [h.ss]) ++ [putB 1 1]) ++ [h.ag]) ++ [h.sg]) ++ [h.ba]) ++ [putB h.id.toNat 2]) ++ [h.ra]) ++ [putB h.n.toNat 2]) ++ [putB h.pv.toNat 2]) = hdP h:=by unfold hdP;rw [if_pos c0];rfl
  refine Cut.intro (σ:=Unit) (fun _=>True) (fun _=>([(1,.ptr 201 0 none),(4,.ptr 233 0 none),(5,.u64 (UInt64.ofNat 1))],[(201,.mem true 0 [(32,.a8 h.ss),(1,.bool (h.fi = true)),(32,.a8 h.ag),(32,.a8 h.sg),(32,.a8 h.ba),(1,.u16 h.id),(32,.a8 h.ra),(1,.u16 h.n),(1,.u16 h.pv)]),(233,.mem true 0 [(1,.sl 401 0 0 0 0),(1,.ff)]),(401,.mem true (zmE (0 - 0) 1) [(0 * 1,.arr 0 1 (rwF []))])])) () trivial (Le.ghost [.own 401 [(0,.arr 0 1 (rwF []))],.leaf 33 0 401] [] [(201,(1,0,none)),(233,(33,0,none))] rfl ?_ rfl rfl ?_ rfl ?_ rfl) ?_
  ·repeat' (first | (show zA _;first | exact trivial | refine zA.app ?_ ?_ | refine zA.zd ?_ ?_ | refine zA.cons ?_ ?_) | exact fd | fail)
   all_goals exact ⟨rfl,rfl,trivial⟩
  ·exact fc
  ·exact fc
  rintro - -
  repeat (refine sd ?_)
  refine Call.intro (fn79 ([]:List (List UInt8)) 0 0 rfl (by omega) (Nat.le_refl 0) h.ss h1) [(1000,(233,0,none)),(1001,(401,0,none)),(1005,(501,0,none))] rfl ?_ rfl ?_ rfl ?_
  ·exact fc
  ·exact fc
  rintro v M' ⟨c0,hc0,rfl,rfl⟩
  dsimp only [zt,zM,zE,ren,zz,zx,zy,look,zG,zX,ev,evL,zV,zcT,zcF,act,zP,zO,Ent.zW]
  repeat (refine sd ?_)
  refine Call.intro (fnWnum1 (([]:List (List UInt8)) ++ [h.ss]) 1 c0 rfl (by omega) hc0 1 (by omega)) [(1000,(233,0,none)),(1001,(501,0,none)),(1005,(502,0,none))] rfl ?_ rfl ?_ rfl ?_
  ·exact fc
  ·exact fc
  rintro v M' ⟨c1,hc1,rfl,rfl⟩
  dsimp only [zt,zM,zE,ren,zz,zx,zy,look,zG,zX,ev,evL,zV,zcT,zcF,act,zP,zO,Ent.zW]
  repeat (refine sd ?_)
  refine Call.intro (fn79 ((([]:List (List UInt8)) ++ [h.ss]) ++ [putB 1 1]) 2 c1 rfl (by omega) hc1 h.ag h2) [(1000,(233,0,none)),(1001,(502,0,none)),(1005,(503,0,none))] rfl ?_ rfl ?_ rfl ?_
  ·exact fc
  ·exact fc
  rintro v M' ⟨c2,hc2,rfl,rfl⟩
  dsimp only [zt,zM,zE,ren,zz,zx,zy,look,zG,zX,ev,evL,zV,zcT,zcF,act,zP,zO,Ent.zW]
  repeat (refine sd ?_)
  refine Call.intro (fn79 (((([]:List (List UInt8)) ++ [h.ss]) ++ [putB 1 1]) ++ [h.ag]) 3 c2 rfl (by omega) hc2 h.sg h3) [(1000,(233,0,none)),(1001,(503,0,none)),(1005,(504,0,none))] rfl ?_ rfl ?_ rfl ?_
  ·exact fc
  ·exact fc
  rintro v M' ⟨c3,hc3,rfl,rfl⟩
  dsimp only [zt,zM,zE,ren,zz,zx,zy,look,zG,zX,ev,evL,zV,zcT,zcF,act,zP,zO,Ent.zW]
  repeat (refine sd ?_)
  refine Call.intro (fn79 ((((([]:List (List UInt8)) ++ [h.ss]) ++ [putB 1 1]) ++ [h.ag]) ++ [h.sg]) 4 c3 rfl (by omega) hc3 h.ba h4) [(1000,(233,0,none)),(1001,(504,0,none)),(1005,(505,0,none))] rfl ?_ rfl ?_ rfl ?_
  ·exact fc
  ·exact fc
  rintro v M' ⟨c4,hc4,rfl,rfl⟩
  dsimp only [zt,zM,zE,ren,zz,zx,zy,look,zG,zX,ev,evL,zV,zcT,zcF,act,zP,zO,Ent.zW]
  repeat (refine sd ?_)
  refine Call.intro (fnWnum2 (((((([]:List (List UInt8)) ++ [h.ss]) ++ [putB 1 1]) ++ [h.ag]) ++ [h.sg]) ++ [h.ba]) 5 c4 rfl (by omega) hc4 h.id) [(1000,(233,0,none)),(1001,(505,0,none)),(1005,(506,0,none))] rfl ?_ rfl ?_ rfl ?_
  ·exact fc
  ·exact fc
  rintro v M' ⟨c5,hc5,rfl,rfl⟩
  dsimp only [zt,zM,zE,ren,zz,zx,zy,look,zG,zX,ev,evL,zV,zcT,zcF,act,zP,zO,Ent.zW]
  repeat (refine sd ?_)
  refine Call.intro (fn79 ((((((([]:List (List UInt8)) ++ [h.ss]) ++ [putB 1 1]) ++ [h.ag]) ++ [h.sg]) ++ [h.ba]) ++ [putB h.id.toNat 2]) 6 c5 rfl (by omega) hc5 h.ra h5) [(1000,(233,0,none)),(1001,(506,0,none)),(1005,(507,0,none))] rfl ?_ rfl ?_ rfl ?_
  ·exact fc
  ·exact fc
  rintro v M' ⟨c6,hc6,rfl,rfl⟩
  dsimp only [zt,zM,zE,ren,zz,zx,zy,look,zG,zX,ev,evL,zV,zcT,zcF,act,zP,zO,Ent.zW]
  repeat (refine sd ?_)
  refine Call.intro (fnWnum2 (((((((([]:List (List UInt8)) ++ [h.ss]) ++ [putB 1 1]) ++ [h.ag]) ++ [h.sg]) ++ [h.ba]) ++ [putB h.id.toNat 2]) ++ [h.ra]) 7 c6 rfl (by omega) hc6 h.n) [(1000,(233,0,none)),(1001,(507,0,none)),(1005,(508,0,none))] rfl ?_ rfl ?_ rfl ?_
  ·exact fc
  ·exact fc
  rintro v M' ⟨c7,hc7,rfl,rfl⟩
  dsimp only [zt,zM,zE,ren,zz,zx,zy,look,zG,zX,ev,evL,zV,zcT,zcF,act,zP,zO,Ent.zW]
  repeat (refine sd ?_)
  refine Call.intro (fnWnum2 ((((((((([]:List (List UInt8)) ++ [h.ss]) ++ [putB 1 1]) ++ [h.ag]) ++ [h.sg]) ++ [h.ba]) ++ [putB h.id.toNat 2]) ++ [h.ra]) ++ [putB h.n.toNat 2]) 8 c7 rfl (by omega) hc7 h.pv) [(1000,(233,0,none)),(1001,(508,0,none)),(1005,(509,0,none))] rfl ?_ rfl ?_ rfl ?_
  ·exact fc
  ·exact fc
  rintro v M' ⟨c8,hc8,rfl,rfl⟩
  dsimp only [zt,zM,zE,ren,zz,zx,zy,look,zG,zX,ev,evL,zV,zcT,zcF,act,zP,zO,Ent.zW]
  repeat (refine sd ?_)
  refine Call.intro (fn81 (hdP h) 9 c8 rfl (by omega) hc8 hJ) [(1000,(233,0,none)),(1001,(509,0,none)),(1005,(601,0,none))] rfl ?_ rfl ?_ rfl ?_
  ·exact fc
  ·repeat' (first | (show zA _;first | exact trivial | refine zA.app ?_ ?_ | refine zA.zd ?_ ?_ | refine zA.cons ?_ ?_) | exact fd | fail)
   all_goals (rw [<- hPB];exact fun _ _=>rfl)
  rintro v M' ⟨m,cc,hm,hcc,rfl,rfl⟩
  dsimp only [zt,zM,zE,ren,zz,zx,zy,look,zG,zX,ev,evL,zV,zcT,zcF,act,zP,zO,Ent.zW]
  repeat (refine sd ?_)
  refine Ret.intro (.tup [.sl 1005 0 0 m cc,.tt]) [(1005,.mem true (cc - m) [(m,.a8 (hdB h))])] [(1005,(601,0,none))] rfl ?_ (Or.inr ⟨m,cc,hG,by rw [hdB_eq];exact hm,hcc,rfl,rfl⟩) rfl ?_ rfl ?_ rfl
  ·exact fc
  ·exact fc
  ·repeat' (first | (show zA _;first | exact trivial | refine zA.app ?_ ?_ | refine zA.zd ?_ ?_ | refine zA.cons ?_ ?_) | exact fd | fail)
   all_goals exact hdB_eq h
 have nf:hdG h->(h.ag = List.replicate 32 0/\h.sg = List.replicate 32 0/\h.ba = List.replicate 32 0/\h.id = 0):=fun g=>g.resolve_left c0
 by_cases c1:¬ h.ag = List.replicate 32 0
 ·have hG:¬ hdG h:=fun g=>c1 (nf g).1
  repeat (first | (refine zB.intro (fun h=>False.elim (by revert h;first | (simp [c0,c1];done) | fail)) (fun _=>?_)) | (refine zB.intro (fun _=>?_) (fun h=>False.elim (by revert h;first | (simp [c0,c1];done) | fail))) | (refine sd ?_))
  repeat (first | (refine zB.intro (fun _=>?_) (fun hn=>absurd rfl hn)) | (refine ky0 ?_) | (refine kn0 ?_) | (refine ky ?_) | (refine kn ?_) | (refine sd ?_))
  repeat (first | (refine zB.intro (fun h=>False.elim (by revert h;first | (simp [c0,c1];done) | fail)) (fun _=>?_)) | (refine zB.intro (fun _=>?_) (fun h=>False.elim (by revert h;first | (simp [c0,c1];done) | fail))) | (refine sd ?_))
  refine Ret.intro (.tup [.nsl,.ff]) [] [] rfl ?_ (Or.inl ⟨hG,rfl,rfl⟩) rfl ?_ rfl ?_ rfl
  ·exact fc
  ·exact fc
  ·exact fc
 have c1:h.ag = List.replicate 32 0:=Classical.not_not.1 c1
 by_cases c2:¬ h.sg = List.replicate 32 0
 ·have hG:¬ hdG h:=fun g=>c2 (nf g).2.1
  repeat (first | (refine zB.intro (fun h=>False.elim (by revert h;first | (simp [c0,c1,c2];done) | fail)) (fun _=>?_)) | (refine zB.intro (fun _=>?_) (fun h=>False.elim (by revert h;first | (simp [c0,c1,c2];done) | fail))) | (refine sd ?_))
  repeat (first | (refine zB.intro (fun _=>?_) (fun hn=>absurd rfl hn)) | (refine ky0 ?_) | (refine kn0 ?_) | (refine ky ?_) | (refine kn ?_) | (refine sd ?_))
  repeat (first | (refine zB.intro (fun h=>False.elim (by revert h;first | (simp [c0,c1,c2];done) | fail)) (fun _=>?_)) | (refine zB.intro (fun _=>?_) (fun h=>False.elim (by revert h;first | (simp [c0,c1,c2];done) | fail))) | (refine sd ?_))
  refine Ret.intro (.tup [.nsl,.ff]) [] [] rfl ?_ (Or.inl ⟨hG,rfl,rfl⟩) rfl ?_ rfl ?_ rfl
  ·exact fc
  ·exact fc
  ·exact fc
 have c2:h.sg = List.replicate 32 0:=Classical.not_not.1 c2
 by_cases c3:¬ h.ba = List.replicate 32 0
 ·have hG:¬ hdG h:=fun g=>c3 (nf g).2.2.1
  repeat (first | (refine zB.intro (fun h=>False.elim (by revert h;first | (simp [c0,c1,c2,c3];done) | fail)) (fun _=>?_)) | (refine zB.intro (fun _=>?_) (fun h=>False.elim (by revert h;first | (simp [c0,c1,c2,c3];done) | fail))) | (refine sd ?_))
  repeat (first | (refine zB.intro (fun _=>?_) (fun hn=>absurd rfl hn)) | (refine ky0 ?_) | (refine kn0 ?_) | (refine ky ?_) | (refine kn ?_) | (refine sd ?_))
  repeat (first | (refine zB.intro (fun h=>False.elim (by revert h;first | (simp [c0,c1,c2,c3];done) | fail)) (fun _=>?_)) | (refine zB.intro (fun _=>?_) (fun h=>False.elim (by revert h;first | (simp [c0,c1,c2,c3];done) | fail))) | (refine sd ?_))
  refine Ret.intro (.tup [.nsl,.ff]) [] [] rfl ?_ (Or.inl ⟨hG,rfl,rfl⟩) rfl ?_ rfl ?_ rfl
  ·exact fc
  ·exact fc
  ·exact fc
 have c3:h.ba = List.replicate 32 0:=Classical.not_not.1 c3
 by_cases c4:¬ h.id = 0
 ·have hG:¬ hdG h:=fun g=>c4 (nf g).2.2.2
  repeat (first | (refine zB.intro (fun h=>False.elim (by revert h;first | (simp [c0,c1,c2,c3,c4];done) | fail)) (fun _=>?_)) | (refine zB.intro (fun _=>?_) (fun h=>False.elim (by revert h;first | (simp [c0,c1,c2,c3,c4];done) | fail))) | (refine sd ?_))
  repeat (first | (refine zB.intro (fun _=>?_) (fun hn=>absurd rfl hn)) | (refine ky0 ?_) | (refine kn0 ?_) | (refine ky ?_) | (refine kn ?_) | (refine sd ?_))
  repeat (first | (refine zB.intro (fun h=>False.elim (by revert h;first | (simp [c0,c1,c2,c3,c4];done) | fail)) (fun _=>?_)) | (refine zB.intro (fun _=>?_) (fun h=>False.elim (by revert h;first | (simp [c0,c1,c2,c3,c4];done) | fail))) | (refine sd ?_))
  refine Ret.intro (.tup [.nsl,.ff]) [] [] rfl ?_ (Or.inl ⟨hG,rfl,rfl⟩) rfl ?_ rfl ?_ rfl
  ·exact fc
  ·exact fc
  ·exact fc
 have c4:h.id = 0:=Classical.not_not.1 c4
 have hG:hdG h:=Or.inr ⟨c1,c2,c3,c4⟩
 repeat (first | (refine zB.intro (fun h=>False.elim (by revert h;first | (simp [c0,c1,c2,c3,c4];done) | fail)) (fun _=>?_)) | (refine zB.intro (fun _=>?_) (fun h=>False.elim (by revert h;first | (simp [c0,c1,c2,c3,c4];done) | fail))) | (refine sd ?_))
 have hPB:(((((((((([]:List (List UInt8)) ++ [h.ss]) ++ [putB 0 1]) ++ [h.ag]) ++ [h.sg]) ++ [h.ba]) ++ [putB h.id.toNat 2]) ++ [h.ra]) ++ [putB h.n.toNat 2]) ++ [putB h.pv.toNat 2]) = hdP h:=by unfold hdP;rw [if_neg c0];rfl
 refine Cut.intro (σ:=Unit) (fun _=>True) (fun _=>([(1,.ptr 201 0 none),(4,.ptr 233 0 none),(5,.u64 (UInt64.ofNat 0))],[(201,.mem true 0 [(32,.a8 h.ss),(1,.bool (h.fi = true)),(32,.a8 h.ag),(32,.a8 h.sg),(32,.a8 h.ba),(1,.u16 h.id),(32,.a8 h.ra),(1,.u16 h.n),(1,.u16 h.pv)]),(233,.mem true 0 [(1,.sl 401 0 0 0 0),(1,.ff)]),(401,.mem true (zmE (0 - 0) 1) [(0 * 1,.arr 0 1 (rwF []))])])) () trivial (Le.ghost [.own 401 [(0,.arr 0 1 (rwF []))],.leaf 33 0 401] [] [(201,(1,0,none)),(233,(33,0,none))] rfl ?_ rfl rfl ?_ rfl ?_ rfl) ?_
 ·repeat' (first | (show zA _;first | exact trivial | refine zA.app ?_ ?_ | refine zA.zd ?_ ?_ | refine zA.cons ?_ ?_) | exact fd | fail)
  all_goals exact ⟨rfl,rfl,trivial⟩
 ·exact fc
 ·exact fc
 rintro - -
 repeat (refine sd ?_)
 refine Call.intro (fn79 ([]:List (List UInt8)) 0 0 rfl (by omega) (Nat.le_refl 0) h.ss h1) [(1000,(233,0,none)),(1001,(401,0,none)),(1005,(501,0,none))] rfl ?_ rfl ?_ rfl ?_
 ·exact fc
 ·exact fc
 rintro v M' ⟨c0,hc0,rfl,rfl⟩
 dsimp only [zt,zM,zE,ren,zz,zx,zy,look,zG,zX,ev,evL,zV,zcT,zcF,act,zP,zO,Ent.zW]
 repeat (refine sd ?_)
 refine Call.intro (fnWnum1 (([]:List (List UInt8)) ++ [h.ss]) 1 c0 rfl (by omega) hc0 0 (by omega)) [(1000,(233,0,none)),(1001,(501,0,none)),(1005,(502,0,none))] rfl ?_ rfl ?_ rfl ?_
 ·exact fc
 ·exact fc
 rintro v M' ⟨c1,hc1,rfl,rfl⟩
 dsimp only [zt,zM,zE,ren,zz,zx,zy,look,zG,zX,ev,evL,zV,zcT,zcF,act,zP,zO,Ent.zW]
 repeat (refine sd ?_)
 refine Call.intro (fn79 ((([]:List (List UInt8)) ++ [h.ss]) ++ [putB 0 1]) 2 c1 rfl (by omega) hc1 h.ag h2) [(1000,(233,0,none)),(1001,(502,0,none)),(1005,(503,0,none))] rfl ?_ rfl ?_ rfl ?_
 ·exact fc
 ·exact fc
 rintro v M' ⟨c2,hc2,rfl,rfl⟩
 dsimp only [zt,zM,zE,ren,zz,zx,zy,look,zG,zX,ev,evL,zV,zcT,zcF,act,zP,zO,Ent.zW]
 repeat (refine sd ?_)
 refine Call.intro (fn79 (((([]:List (List UInt8)) ++ [h.ss]) ++ [putB 0 1]) ++ [h.ag]) 3 c2 rfl (by omega) hc2 h.sg h3) [(1000,(233,0,none)),(1001,(503,0,none)),(1005,(504,0,none))] rfl ?_ rfl ?_ rfl ?_
 ·exact fc
 ·exact fc
 rintro v M' ⟨c3,hc3,rfl,rfl⟩
 dsimp only [zt,zM,zE,ren,zz,zx,zy,look,zG,zX,ev,evL,zV,zcT,zcF,act,zP,zO,Ent.zW]
 repeat (refine sd ?_)
 refine Call.intro (fn79 ((((([]:List (List UInt8)) ++ [h.ss]) ++ [putB 0 1]) ++ [h.ag]) ++ [h.sg]) 4 c3 rfl (by omega) hc3 h.ba h4) [(1000,(233,0,none)),(1001,(504,0,none)),(1005,(505,0,none))] rfl ?_ rfl ?_ rfl ?_
 ·exact fc
 ·exact fc
 rintro v M' ⟨c4,hc4,rfl,rfl⟩
 dsimp only [zt,zM,zE,ren,zz,zx,zy,look,zG,zX,ev,evL,zV,zcT,zcF,act,zP,zO,Ent.zW]
 repeat (refine sd ?_)
 refine Call.intro (fnWnum2 (((((([]:List (List UInt8)) ++ [h.ss]) ++ [putB 0 1]) ++ [h.ag]) ++ [h.sg]) ++ [h.ba]) 5 c4 rfl (by omega) hc4 h.id) [(1000,(233,0,none)),(1001,(505,0,none)),(1005,(506,0,none))] rfl ?_ rfl ?_ rfl ?_
 ·exact fc
 ·exact fc
 rintro v M' ⟨c5,hc5,rfl,rfl⟩
 dsimp only [zt,zM,zE,ren,zz,zx,zy,look,zG,zX,ev,evL,zV,zcT,zcF,act,zP,zO,Ent.zW]
 repeat (refine sd ?_)
 refine Call.intro (fn79 ((((((([]:List (List UInt8)) ++ [h.ss]) ++ [putB 0 1]) ++ [h.ag]) ++ [h.sg]) ++ [h.ba]) ++ [putB h.id.toNat 2]) 6 c5 rfl (by omega) hc5 h.ra h5) [(1000,(233,0,none)),(1001,(506,0,none)),(1005,(507,0,none))] rfl ?_ rfl ?_ rfl ?_
 ·exact fc
 ·exact fc
 rintro v M' ⟨c6,hc6,rfl,rfl⟩
 dsimp only [zt,zM,zE,ren,zz,zx,zy,look,zG,zX,ev,evL,zV,zcT,zcF,act,zP,zO,Ent.zW]
 repeat (refine sd ?_)
 refine Call.intro (fnWnum2 (((((((([]:List (List UInt8)) ++ [h.ss]) ++ [putB 0 1]) ++ [h.ag]) ++ [h.sg]) ++ [h.ba]) ++ [putB h.id.toNat 2]) ++ [h.ra]) 7 c6 rfl (by omega) hc6 h.n) [(1000,(233,0,none)),(1001,(507,0,none)),(1005,(508,0,none))] rfl ?_ rfl ?_ rfl ?_
 ·exact fc
 ·exact fc
 rintro v M' ⟨c7,hc7,rfl,rfl⟩
 dsimp only [zt,zM,zE,ren,zz,zx,zy,look,zG,zX,ev,evL,zV,zcT,zcF,act,zP,zO,Ent.zW]
 repeat (refine sd ?_)
 refine Call.intro (fnWnum2 ((((((((([]:List (List UInt8)) ++ [h.ss]) ++ [putB 0 1]) ++ [h.ag]) ++ [h.sg]) ++ [h.ba]) ++ [putB h.id.toNat 2]) ++ [h.ra]) ++ [putB h.n.toNat 2]) 8 c7 rfl (by omega) hc7 h.pv) [(1000,(233,0,none)),(1001,(508,0,none)),(1005,(509,0,none))] rfl ?_ rfl ?_ rfl ?_
 ·exact fc
 ·exact fc
 rintro v M' ⟨c8,hc8,rfl,rfl⟩
 dsimp only [zt,zM,zE,ren,zz,zx,zy,look,zG,zX,ev,evL,zV,zcT,zcF,act,zP,zO,Ent.zW]
 repeat (refine sd ?_)
 refine Call.intro (fn81 (hdP h) 9 c8 rfl (by omega) hc8 hJ) [(1000,(233,0,none)),(1001,(509,0,none)),(1005,(601,0,none))] rfl ?_ rfl ?_ rfl ?_
 ·exact fc
 ·repeat' (first | (show zA _;first | exact trivial | refine zA.app ?_ ?_ | refine zA.zd ?_ ?_ | refine zA.cons ?_ ?_) | exact fd | fail)
  all_goals (rw [<- hPB];exact fun _ _=>rfl)
 rintro v M' ⟨m,cc,hm,hcc,rfl,rfl⟩
 dsimp only [zt,zM,zE,ren,zz,zx,zy,look,zG,zX,ev,evL,zV,zcT,zcF,act,zP,zO,Ent.zW]
 repeat (refine sd ?_)
 refine Ret.intro (.tup [.sl 1005 0 0 m cc,.tt]) [(1005,.mem true (cc - m) [(m,.a8 (hdB h))])] [(1005,(601,0,none))] rfl ?_ (Or.inr ⟨m,cc,hG,by rw [hdB_eq];exact hm,hcc,rfl,rfl⟩) rfl ?_ rfl ?_ rfl
 ·exact fc
 ·exact fc
 ·repeat' (first | (show zA _;first | exact trivial | refine zA.app ?_ ?_ | refine zA.zd ?_ ?_ | refine zA.cons ?_ ?_) | exact fd | fail)
  all_goals exact hdB_eq h
end Go.Proofs.YtfnmgbillkiabaaGreat
