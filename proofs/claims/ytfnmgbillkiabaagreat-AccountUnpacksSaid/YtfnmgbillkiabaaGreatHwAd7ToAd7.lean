/- What the functions of the program compute. No condition. -/
import Derived.Test.YtfnmgbillkiabaaGreatHwAd6ToAd6
set_option linter.unusedSimpArgs false
set_option linter.unusedVariables false
set_option maxRecDepth 100000
namespace Go.Proofs.YtfnmgbillkiabaaGreat
open Go Go.Sx
theorem putF_cut {l:List On} {n a:Nat} (hl:l.length = n) (ha:a < n) {G:Nat->List (Nat × SV)} (hG:∀ q,q < n - (a + 1)->G q = onF l (a + 1 + q)):∀ q,q < n - 1->onF (l.take a ++ l.drop (a + 1)) q = putF a (n - (a + 1)) (onF l) G q:=by
 intro q hq
 unfold putF
 by_cases h:q < a
 ·rw [if_pos h]
  unfold onF
  rw [List.getD_eq_getElem?_getD,List.getElem?_append_left (by rw [zlT];omega),List.getElem?_take,if_pos h,List.getD_eq_getElem?_getD]
 ·rw [if_neg h,if_pos (by omega),hG _ (by omega)]
  unfold onF
  have e:(l.take a ++ l.drop (a + 1)).getD q on0 = l.getD (a + 1 + (q - a)) on0:=by
   rw [List.getD_eq_getElem?_getD,List.getElem?_append_right (by rw [zlT];omega),zlT,Nat.min_eq_left (by omega),List.getElem?_drop,List.getD_eq_getElem?_getD]
  rw [e]
set_option maxHeartbeats 4000000 in
theorem fnDelete (l:List On) (n c a:Nat) (hl:l.length = n) (hn:n <= 1000) (hnc:n <= c) (ha:a < n) :
  Sx.Fn Γ.P 107 [.sl 1000 0 0 n c,.i .i64 (a:Int),.i .i64 ((a + 1:Nat):Int)] [(1000,.mem true (zmE (c - n) 33) [(n * 33,.arr n 33 (onF l))])]
  (fun v M=>v = .sl 1000 0 0 (n - 1) c/\M = [(1000,.mem true (zmE (c - (n - 1)) 33) [((n - 1) * 33,.arr (n - 1) 33 (onF (l.take a ++ l.drop (a + 1))))])]):=by
 refine fn_cut [5,6] (Γ:=Γ) (fn:=Tryz.f107) rfl rfl rfl rfl ?_
 repeat (refine sd ?_)
 refine zB.intro (fun h=>?_) (fun _=>?_)
 ·have h:(a:Int) = ((a + 1:Nat):Int):=h
  exact absurd h (by omega)
 repeat (refine sd ?_)
 refine Cut.intro (σ:=Unit) (fun _=>True) (fun _=>([(0,.sl 1000 0 0 n c),(1,.i .i64 (a:Int)),(2,.i .i64 ((a + 1:Nat):Int)),(7,.i .i64 (n:Int))],[(1000,.mem true (zmE (c - n) 33) [(n * 33,.arr n 33 (onF l)),(0,.a8 [])])])) () trivial (Le.ghost [.mark 1000] [] [] rfl ?_ rfl rfl ?_ rfl ?_ rfl) ?_
 ·exact fc
 ·exact fc
 ·exact fc
 rintro - -
 obtain ⟨G,hGe⟩:∃ G,putF (Ix.dyn (Int.toNat (a:Int))).val (n - (Ix.dyn (Int.toNat ((a + 1:Nat):Int))).val) (onF l) (shiftF (((Ix.dyn (Int.toNat ((a + 1:Nat):Int))).val * 33 + 0) / 33) (onF l)) = G:=⟨_,rfl⟩
 have e1:(Ix.dyn (Int.toNat (a:Int))).val = a:=zIn a
 have e2:(Ix.dyn (Int.toNat ((a + 1:Nat):Int))).val = a + 1:=zIn (a + 1)
 have hG:∀ q,q < n - 1->onF (l.take a ++ l.drop (a + 1)) q = G q:=by
  rw [<- hGe,e1,e2]
  refine putF_cut hl ha fun q _=>?_
  rw [shiftF_eq,Nat.add_zero,Nat.mul_div_cancel _ (by decide)]
 refine Draw.intro [[],[],[0,1],[],[],[3,4],[0,1,2,3,4,5],[0,1,2,3,4,5,6]] [0,1,2,3,4,5,6,7] (by kernel_rfl) ?_
 repeat (first | (refine Grow.turn rfl rfl ?_) | (refine sd ?_))
 refine Cut.intro (σ:=Unit) (fun _=>True) (fun _=>([(0,.sl 1000 0 0 (n - 1) c),(7,.i .i64 (n:Int))],[(1000,.mem true (zmE (c - n) 33) [(n * 33,.arr n 33 G),(0,.a8 [])])])) () trivial (Le.intro [] rfl ?_ rfl ?_ rfl) ?_
 ·repeat' (first | (show zA _;first | exact trivial | refine zA.app ?_ ?_ | refine zA.zd ?_ ?_ | refine zA.cons ?_ ?_) | exact fd | fail)
  all_goals first | (rw [e1,e2];omega) | trace_state
 ·repeat' (first | (show zA _;first | exact trivial | refine zA.app ?_ ?_ | refine zA.zd ?_ ?_ | refine zA.cons ?_ ?_) | exact fd | fail)
  all_goals first | (rw [<- hGe];exact fun _ _=>rfl) | trace_state
 rintro - -
 have e3:(Ix.dyn (Int.toNat ((n - 1:Nat):Int))).val = n - 1:=zIn (n - 1)
 have e4:(Ix.dyn (Int.toNat (n:Int))).val = n:=zIn n
 repeat (refine Side.intro (by repeat' (first | (show zA _;first | exact trivial | refine zA.app ?_ ?_ | refine zA.zd ?_ ?_ | refine zA.cons ?_ ?_) | with_reducible rfl | with_reducible assumption | omega | (simp only [zL,zIn,rng,Ix.val,zQ,addI,szs] <;> omega) | (simp only [zL,zIn,rng,Ix.val,zIn,zme,zQ,addI,Option.getD_none,Option.getD_some,zlT,zlD,zlA,List.length_set,List.length_replicate,szs, *] <;> omega) | (simp only [Ix.val];with_reducible assumption) | exact UInt8.toNat_lt _ | (apply Eq.trans;(with_reducible assumption);exact rfl) | exact rfl | exact fun _ _=>rfl)) ?_)
 refine Ret.intro (.sl 1000 0 0 (n - 1) c) [(1000,.mem true (zmE (c - (n - 1)) 33) [((n - 1) * 33,.arr (n - 1) 33 (onF (l.take a ++ l.drop (a + 1))))])] [] rfl ?_ ⟨rfl,rfl⟩ rfl ?_ rfl ?_ rfl
 ·exact fc
 ·exact fc
 ·repeat' (first | (show zA _;first | exact trivial | refine zA.app ?_ ?_ | refine zA.zd ?_ ?_ | refine zA.cons ?_ ?_) | exact fd | fail)
  all_goals first | exact hG | (rw [e3];omega) | (rw [e3];show zmE (c - (n - 1)) 33 = n * 33 + (0 + 0) + zmE (c - n) 33 - ((n - 1) * 33 + 0);rw [zme,zme];omega) | trace_state
def hdR (h:Hd):List (Nat × SV):=[(32,.a8 h.ss),(1,.bool (h.fi = true)),(32,.a8 h.ag),(32,.a8 h.sg),(32,.a8 h.ba),(1,.u16 h.id),(32,.a8 h.ra),(1,.u16 h.n),(1,.u16 h.pv)]
set_option maxHeartbeats 1000000 in
theorem fn105 (h:Hd) (o:On) (ho:OnOK o):Sx.Fn Γ.P 105 [.agg (onR o),.ptr 1000 0 none] [(1000,.mem true 0 (hdR h))]
  (fun v M=>v = .bool (o.1 = h.id)/\M = [(1000,.mem true 0 (hdR h))]):=by
 have ho:o.2.length = 32:=ho
 refine fn_of (Γ:=Γ) (fn:=Tryz.f105) rfl rfl rfl rfl ?_
 repeat (refine sd ?_)
 refine Ret.intro (.bool (o.1 = h.id)) [(1000,.mem true 0 (hdR h))] [] rfl ?_ ⟨rfl,rfl⟩ rfl ?_ rfl ?_ rfl
 ·exact fc
 ·exact fc
 ·exact fc
def fiO (id:UInt16):List On->Nat
 | []=>0
 | x :: t=>if x.1 = id then 0 else fiO id t + 1
theorem fiO_at {id:UInt16}:∀ {l:List On} {i:Nat},i < l.length->(∀ j,j < i->(l.getD j on0).1 ≠ id)->(l.getD i on0).1 = id->fiO id l = i
 | [],_,h,_,_=>by cases h
 | x :: t,0,_,_,h=>by unfold fiO;exact if_pos h
 | x :: t,i + 1,hi,hj,h=>by
  unfold fiO
  rw [if_neg (show ¬ x.1 = id from hj 0 (by omega)),fiO_at (l:=t) (i:=i) (by simpa using hi) (fun j hlt=>hj (j + 1) (by omega)) h]
theorem fiO_no {id:UInt16}:∀ {l:List On},(∀ j,j < l.length->(l.getD j on0).1 ≠ id)->fiO id l = l.length
 | [],_=>rfl
 | x :: t,h=>by
  unfold fiO
  rw [if_neg (show ¬ x.1 = id from h 0 (by simp)),fiO_no (l:=t) fun j hj=>h (j + 1) (by simpa using hj)]
  rfl
set_option maxHeartbeats 4000000 in
theorem fnIndexO (l:List On) (n:Nat) (hl:l.length = n) (hn:n <= 1000) (hlO:∀ o ∈ l,OnOK o) (h:Hd) :
  Sx.Fn Γ.P 106 [.slx 1003 0 0 n,.fn 105 [(1000,0)]] [(1003,.mem false 0 [(n * 33,.arr n 33 (onF l))]),(1000,.mem true 0 (hdR h))]
  (fun v M=>((fiO h.id l < n/\v = .i .i64 ((fiO h.id l:Nat):Int)) \/ (fiO h.id l = n/\v = .i .i64 (-1)))/\M = [(1003,.mem false 0 [(n * 33,.arr n 33 (onF l))]),(1000,.mem true 0 (hdR h))]):=by
 refine fn_of (Γ:=Γ) (fn:=Tryz.f106) rfl rfl rfl rfl ?_
 repeat (refine sd ?_)
 refine Loop.intro (σ:=Nat) (fun i=>i <= n/\∀ j,j < i->(l.getD j on0).1 ≠ h.id)
  (fun i=>([(0,.slx 1003 0 0 n),(1,.fn 105 [(1000,0)]),(7,.i .i64 (n:Int)),(8,.i .i64 (i:Int))],[(1003,.mem false 0 [(n * 33,.arr n 33 (onF l))]),(1000,.mem true 0 (hdR h))]))
  (fun i=>n - i) 0 ⟨Nat.zero_le _,fun j hj=>absurd hj (Nat.not_lt_zero _)⟩ ?_ ?_
 ·refine Le.intro [] rfl ?_ rfl ?_ rfl
  ·exact fc
  ·exact fc
 rintro i ⟨hi,hno⟩
 have hi:i <= n:=hi
 have hno:∀ j,j < i->(l.getD j on0).1 ≠ h.id:=hno
 refine zB.intro (fun hb=>?_) (fun hb=>?_)
 ·have hb:(i:Int) < (n:Int):=hb
  obtain ⟨w,hw⟩:∃ w,l.getD i on0 = w:=⟨_,rfl⟩
  have hwO:OnOK w:=by rw [<- hw];exact hlO _ (getD_mem on0 (by omega))
  have e1:addQ 0 (Int.toNat (i:Int)) = i:=by rw [zQ,Nat.zero_add,zIn]
  have j1:(l.getD (addQ 0 (Ix.dyn (Int.toNat (i:Int))).val) on0).1 = w.1:=by rw [show addQ 0 (Ix.dyn (Int.toNat (i:Int))).val = i from e1,hw]
  have j2:(l.getD (addQ 0 (Ix.dyn (Int.toNat (i:Int))).val) on0).2 = w.2:=by rw [show addQ 0 (Ix.dyn (Int.toNat (i:Int))).val = i from e1,hw]
  have j3:(l.getD (Ix.dyn (Int.toNat (i:Int))).val on0).1 = w.1:=by rw [show (Ix.dyn (Int.toNat (i:Int))).val = i from zIn i,hw]
  have j4:(l.getD (Ix.dyn (Int.toNat (i:Int))).val on0).2 = w.2:=by rw [show (Ix.dyn (Int.toNat (i:Int))).val = i from zIn i,hw]
  have hC:=fn105 h w hwO
  unfold onR at hC
  repeat (refine sd ?_)
  refine Call.intro hC [(1000,(1000,0,none))] rfl ?_ rfl ?_ rfl ?_
  ·repeat' (first | (show zA _;first | exact trivial | refine zA.app ?_ ?_ | refine zA.zd ?_ ?_ | refine zA.cons ?_ ?_) | exact fd | fail)
   all_goals first | exact j1.symm | exact j2.symm | exact j1 | exact j2 | exact j3.symm | exact j4.symm | exact j3 | exact j4 | trace_state
  ·exact fc
  rintro v M' ⟨rfl,rfl⟩
  dsimp only [zt,zM,zE,ren,zz,zx,zy,look,zG,zX,ev,evL,zV,zcT,zcF,act,zP,zO,Ent.zW]
  repeat (refine sd ?_)
  refine zB.intro (fun hq=>?_) (fun hq=>?_)
  ·have hq:w.1 = h.id:=hq
   have hf:fiO h.id l = i:=fiO_at (by omega) hno (by rw [hw];exact hq)
   repeat (refine sd ?_)
   refine Ret.intro (.i .i64 ((i:Nat):Int)) [(1003,.mem false 0 [(n * 33,.arr n 33 (onF l))]),(1000,.mem true 0 (hdR h))] [] rfl ?_ ⟨Or.inl ⟨by omega,by rw [hf]⟩,rfl⟩ rfl ?_ rfl ?_ rfl
   ·exact fc
   ·exact fc
   ·exact fc
  ·have hq:¬ w.1 = h.id:=hq
   repeat (refine sd ?_)
   refine ⟨i + 1,⟨by show i + 1 <= n;omega,fun j hj=>?_⟩,by show n - (i + 1) < n - i;omega,Le.intro [] rfl ?_ rfl ?_ rfl⟩
   ·rcases Nat.lt_or_ge j i with h1 | h1
    ·exact hno j h1
    ·obtain rfl:j = i:=by omega
     rw [hw];exact hq
   ·exact fc
   ·exact fc
 have hb:¬ (i:Int) < (n:Int):=hb
 obtain rfl:i = n:=by omega
 have hf:fiO h.id l = i:=by rw [fiO_no (by rw [hl];exact hno),hl]
 repeat (refine sd ?_)
 refine Ret.intro (.i .i64 (-1)) [(1003,.mem false 0 [(i * 33,.arr i 33 (onF l))]),(1000,.mem true 0 (hdR h))] [] rfl ?_ ⟨Or.inr ⟨hf,rfl⟩,rfl⟩ rfl ?_ rfl ?_ rfl
 ·exact fc
 ·exact fc
 ·exact fc
end Go.Proofs.YtfnmgbillkiabaaGreat
