/- What the functions of the program compute. No condition. -/
import Derived.Test.YtfnmgbillkiabaaGreatHwRc3ToRc4
set_option linter.unusedSimpArgs false
set_option linter.unusedVariables false
set_option maxRecDepth 100000
namespace Go.Proofs.YtfnmgbillkiabaaGreat
open Go Go.Sx
theorem onX {l:List On} {i:Nat} {kk:On} (h:l.getD i on0 = kk):onF l i = [(1,SV.u16 kk.1),(32,.a8 kk.2)]:=by unfold onF;rw [h]
def pkPost (x:Ac) (l:List On) (N:Nat) (v:SV) (M:Mm):Prop:=((8 < N \/ x.fi ≠ 0)/\v = .tup [.nsl,.ff]/\M = []) \/ (N <= 8/\x.fi = 0/\∃ k c,(acB x l).length = k/\k <= c/\v = .tup [.sl 1006 0 0 k c,.tt]/\M = [(1006,.mem true (c - k) [(k,.a8 (acB x l))])])
set_option maxHeartbeats 4000000 in
theorem fn26 (x:Ac) (hx:x.OK) (l:List On) (N:Nat) (hN:l.length = N) (hN1:N <= 1000000) (hlO:∀ k ∈ l,OnOK k) :
  Sx.Fn Γ.P 26 [.agg (acL x (.isl 0 N 33 [(N * 33,.arr N 33 (onF l))]))] [] (pkPost x l N):=by
 have hx':=hx
 obtain ⟨h1,h2,h3⟩:=hx'
 have hPn:=fn67 x.nx.toUInt64 2 (by omega) (by omega) (fun _=>u16_shr x.nx)
 rw [UInt16.toNat_toUInt64] at hPn
 have hPl:=putB_length x.nx.toNat 2
 obtain ⟨Bn,hBn⟩:∃ B,putB x.nx.toNat 2 = B:=⟨_,rfl⟩
 rw [hBn] at hPn hPl
 refine fn_cut [4,5,8] (Γ:=Γ) (fn:=Tryz.f26) rfl rfl rfl rfl ?_
 repeat (refine sd ?_)
 by_cases c0:8 < N
 ·have hB:8 < N \/ x.fi ≠ 0:=Or.inl c0
  have c1:(8:Int) < (N:Int):=by omega
  repeat (first | (refine zB.intro (fun h=>False.elim (by revert h;first | (simp [c1];done) | fail)) (fun _=>?_)) | (refine zB.intro (fun _=>?_) (fun h=>False.elim (by revert h;first | (simp [c1];done) | fail))) | (refine sd ?_))
  refine Ret.intro (.tup [.nsl,.ff]) [] [] rfl ?_ (Or.inl ⟨hB,rfl,rfl⟩) rfl ?_ rfl ?_ rfl
  ·exact fc
  ·exact fc
  ·exact fc
 have c1:¬ (8:Int) < (N:Int):=by omega
 by_cases c2:¬ x.fi = 0
 ·have hB:8 < N \/ x.fi ≠ 0:=Or.inr c2
  repeat (first | (refine zB.intro (fun h=>False.elim (by revert h;first | (simp [c1,c2];done) | fail)) (fun _=>?_)) | (refine zB.intro (fun _=>?_) (fun h=>False.elim (by revert h;first | (simp [c1,c2];done) | fail))) | (refine sd ?_))
  refine Ret.intro (.tup [.nsl,.ff]) [] [] rfl ?_ (Or.inl ⟨hB,rfl,rfl⟩) rfl ?_ rfl ?_ rfl
  ·exact fc
  ·exact fc
  ·exact fc
 have c2:x.fi = 0:=Classical.not_not.1 c2
 repeat (first | (refine zB.intro (fun h=>False.elim (by revert h;first | (simp [c1,c2];done) | fail)) (fun _=>?_)) | (refine zB.intro (fun _=>?_) (fun h=>False.elim (by revert h;first | (simp [c1,c2];done) | fail))) | (refine sd ?_))
 refine Call.intro hPn [(1001,(301,0,none))] rfl ?_ rfl ?_ rfl ?_
 ·exact fc
 ·exact fc
 rintro v M' ⟨rfl,rfl⟩
 dsimp only [zt,zM,zE,ren,zz,zx,zy,look,zG,zX,ev,evL,zV,zcT,zcF,act,zP,zO,Ent.zW]
 repeat (refine sd ?_)
 refine Cut.intro (σ:=Unit) (fun _=>True) (fun _=>([(1,.iep 0 0 1 (acL x (.isl 0 N 33 [(N * 33,.arr N 33 (onF l))]))),(4,.isl 0 2 1 [(2,.a8 Bn)])],[])) () trivial (Le.ghost [.keep 1,.keep 301] [(1,0),(4,0)] [] rfl ?_ rfl rfl ?_ rfl ?_ rfl) ?_
 ·exact fc
 ·exact fc
 ·exact fc
 rintro - -
 refine Draw.intro [[],[0],[],[2],[],[4],[4,5],[],[0,1,2,3,4,5,6,7],[0,1,2,3,4,5,6,7,8]] [0,1,2,3,4,5,6,7,8,9] (by kernel_rfl) ?_
 repeat (first | (refine Grow.turn rfl rfl ?_) | (refine sd ?_))
 refine Cut.intro (σ:=Unit) (fun _=>True) (fun _=>([(1,.iep 0 0 1 (acL x (.isl 0 N 33 [(N * 33,.arr N 33 (onF l))]))),(6,.sl 206 0 0 4 4)],[(206,.mem true (zmE (4 - 4) 1) [(4 * 1,.arr 4 1 (rwF (acP x)))])])) () trivial (Le.intro [(206,(36,0,none))] rfl ?_ rfl ?_ rfl) ?_
 ·exact fc
 ·repeat' (first | (show zA _;first | exact trivial | refine zA.app ?_ ?_ | refine zA.zd ?_ ?_ | refine zA.cons ?_ ?_) | exact fd | fail)
  all_goals first | exact rwK rfl h1 | exact rwK rfl h2 | exact rwK rfl h3 | exact rwK hBn hPl | trace_state
 rintro - -
 have hkx:∀ i,i < N->OnOK (l.getD i on0):=fun i hi=>hlO _ (getD_mem on0 (by omega))
 repeat (refine sd ?_)
 refine Loop.intro (σ:=Nat × Nat) (fun s=>s.1 <= N/\4 + s.1 <= s.2)
  (fun s=>([(6,.sl 206 0 0 (4 + s.1) s.2),(38,.isl 0 N 33 [(N * 33,.arr N 33 (onF l))]),(39,.i .i64 (N:Int)),(40,.i .i64 (s.1:Int))],[(206,.mem true (zmE (s.2 - (4 + s.1)) 1) [((4 + s.1) * 1,.arr (4 + s.1) 1 (rwF (acA x (l.take s.1))))])]))
  (fun s=>N - s.1) (0,4) ⟨Nat.zero_le _,Nat.le_refl _⟩ ?_ ?_
 ·refine Le.intro [(206,(206,0,none))] rfl ?_ rfl ?_ rfl
  ·exact fc
  ·exact fc
 rintro ⟨i,c⟩ ⟨hi,hc2⟩
 have hi:i <= N:=hi
 have hc2:4 + i <= c:=hc2
 refine zB.intro (fun hb=>?_) (fun hb=>?_)
 ·have hb:(i:Int) < (N:Int):=hb
  have him:i < N:=by omega
  obtain ⟨kk,hkk⟩:∃ kk,l.getD i on0 = kk:=⟨_,rfl⟩
  have hkO:=hkx i him
  rw [hkk] at hkO
  have k1:kk.2.length = 32:=hkO
  have hPk:=fn67 kk.1.toUInt64 2 (by omega) (by omega) (fun _=>u16_shr kk.1)
  rw [UInt16.toNat_toUInt64] at hPk
  have hQl:=putB_length kk.1.toNat 2
  have hK34:=acK_length hkO
  obtain ⟨Bk,hBk⟩:∃ B,putB kk.1.toNat 2 = B:=⟨_,rfl⟩
  rw [hBk] at hPk hQl
  repeat (refine sd ?_)
  refine Cut.intro (σ:=Unit) (fun _=>True) (fun _=>([(6,.sl 206 0 0 (4 + i) c),(8,.iep 0 0 1 [(1,.u16 kk.1),(32,.a8 kk.2)]),(38,.isl 0 N 33 [(N * 33,.arr N 33 (onF l))]),(39,.i .i64 (N:Int)),(40,.i .i64 (i:Int))],[(206,.mem true (zmE (c - (4 + i)) 1) [((4 + i) * 1,.arr (4 + i) 1 (rwF (acA x (l.take i))))])])) () trivial (Le.ghost [.keep 8] [(8,0)] [(206,(206,0,none))] rfl ?_ rfl rfl ?_ rfl ?_ rfl) ?_
  ·exact fc
  ·repeat' (first | (show zA _;first | exact trivial | refine zA.app ?_ ?_ | refine zA.zd ?_ ?_ | refine zA.cons ?_ ?_) | exact fd | fail)
   all_goals
    have e:addQ 0 (Int.toNat (i:Int)) = i:=by rw [zQ,Nat.zero_add,zIn]
    show _ = onF l (addQ 0 (Int.toNat (i:Int)))
    rw [e,onX hkk]
  ·exact fc
  rintro - -
  repeat (refine sd ?_)
  refine Call.intro hPk [(1001,(301,0,none))] rfl ?_ rfl ?_ rfl ?_
  ·exact fc
  ·exact fc
  rintro v M' ⟨rfl,rfl⟩
  dsimp only [zt,zM,zE,ren,zz,zx,zy,look,zG,zX,ev,evL,zV,zcT,zcF,act,zP,zO,Ent.zW]
  have hlA:(acA x (l.take i)).length = 4 + i:=by rw [acA_length,zlT];omega
  have hrw:=rw_next' hlA hK34
  have hsu:=acA_succ x (l:=l) (i:=i) (by omega)
  rw [hkk] at hsu
  have hAk:acK kk = Bk ++ kk.2:=by unfold acK;rw [hBk]
  have eD:dropQ (addI none 0) Bk ++ List.take 32 (List.drop 0 kk.2) = acK kk:=by
   rw [hAk,List.drop_zero,List.take_of_length_le (by omega)]
   rfl
  repeat (refine sd ?_)
  refine fun c1 hc1=>?_
  repeat (refine sd ?_)
  refine fun c' hc'=>?_
  have hc':4 + i + 1 <= c':=hc'
  repeat (refine sd ?_)
  refine ⟨(i + 1,c'),⟨by show i + 1 <= N;omega,by show 4 + (i + 1) <= c';omega⟩,by show N - (i + 1) < N - i;omega,Le.intro [(206,(57,0,none))] rfl ?_ rfl ?_ rfl⟩
  ·exact fc
  ·repeat' (first | (show zA _;first | exact trivial | refine zA.app ?_ ?_ | refine zA.zd ?_ ?_ | refine zA.cons ?_ ?_) | exact fd | fail)
   all_goals first | (show ∀ q,q < 4 + i + 1->rwF (acA x (l.take (i + 1))) q = appF (4 + i) (shiftF 0 (rwF (acA x (l.take i)))) (rowF [[(1,.isl 0 34 1 [(34,.a8 (dropQ (addI none 0) Bk ++ List.take 32 (List.drop 0 kk.2)))])]]) q;rw [hsu,eD];exact hrw) | trace_state
 have hb:¬ (i:Int) < (N:Int):=hb
 obtain rfl:i = N:=by omega
 have hlt:l.take i = l:=List.take_of_length_le (by omega)
 rw [hlt]
 have hJo:=acA_ok hx hlO (by omega)
 repeat (refine sd ?_)
 refine Call.intro (fn68 (acA x l) (4 + i) (by rw [acA_length,hN]) (by omega) (fun y hy=>by have:=hJo.2 y hy;omega)) [(1003,(206,0,none)),(1001,(302,0,none))] rfl ?_ rfl ?_ rfl ?_
 ·exact fc
 ·exact fc
 rintro v M' (⟨hj,_⟩ | ⟨c3,N3,hJ3,hN3,hNc3,rfl,rfl⟩)
 ·exact absurd hJo hj
 dsimp only [zt,zM,zE,ren,zz,zx,zy,look,zG,zX,ev,evL,zV,zcT,zcF,act,zP,zO,Ent.zW]
 repeat (refine sd ?_)
 refine Ret.intro (.tup [.sl 1006 0 0 N3 c3,.tt]) [(1006,.mem true (c3 - N3) [(N3,.a8 (jnB (acA x l)))])] [(1006,(302,0,none))] rfl ?_ (Or.inr ⟨by omega,c2,N3,c3,hN3,hNc3,rfl,rfl⟩) rfl ?_ rfl ?_ rfl
 ·exact fc
 ·exact fc
 ·exact fc
theorem u16_pos {x:UInt16} (h:¬ x = 0):x > 0:=by
 show (0:UInt16).toNat < x.toNat
 have h0:(0:UInt16).toNat = 0:=rfl
 have:x.toNat ≠ 0:=fun e=>h (UInt16.toNat_inj.1 e)
 omega
set_option maxHeartbeats 4000000 in
theorem fn27 (x:Ac) (hx:x.OK) (l:List On) (N:Nat) (hN:l.length = N) (hN1:N <= 1000000) (hlO:∀ k ∈ l,OnOK k) :
  Sx.Fn Γ.P 27 [.agg (acL x (.isl 0 N 33 [(N * 33,.arr N 33 (onF l))]))] [] (pkPost x l N):=by
 have hx':=hx
 obtain ⟨h1,h2,h3⟩:=hx'
 refine fn_cut [3,4] (Γ:=Γ) (fn:=Tryz.f27) rfl rfl rfl rfl ?_
 repeat (refine sd ?_)
 by_cases c0:8 < N
 ·have hB:8 < N \/ x.fi ≠ 0:=Or.inl c0
  have c1:(8:Int) < (N:Int):=by omega
  repeat (first | (refine zB.intro (fun h=>False.elim (by revert h;first | (simp [c1];done) | fail)) (fun _=>?_)) | (refine zB.intro (fun _=>?_) (fun h=>False.elim (by revert h;first | (simp [c1];done) | fail))) | (refine sd ?_))
  refine Ret.intro (.tup [.nsl,.ff]) [] [] rfl ?_ (Or.inl ⟨hB,rfl,rfl⟩) rfl ?_ rfl ?_ rfl
  ·exact fc
  ·exact fc
  ·exact fc
 have c1:¬ (8:Int) < (N:Int):=by omega
 by_cases c2:¬ x.fi = 0
 ·have hB:8 < N \/ x.fi ≠ 0:=Or.inr c2
  have c4:(UInt16.ofNat 0).toNat < x.fi.toNat:=u16_pos c2
  repeat (first | (refine zB.intro (fun h=>False.elim (by revert h;first | (simp [c1];done) | fail)) (fun _=>?_)) | (refine zB.intro (fun _=>?_) (fun h=>False.elim (by revert h;first | (simp [c1];done) | fail))) | (refine sd ?_))
  repeat (first | (refine zB.intro (fun _=>?_) (fun hn=>absurd rfl hn)) | (refine ky0 ?_) | (refine kn0 ?_) | (refine ky ?_) | (refine kn ?_) | (refine sd ?_))
  repeat (first | (refine zB.intro (fun h=>False.elim (by revert h;first | (simp [c1];done) | fail)) (fun _=>?_)) | (refine zB.intro (fun _=>?_) (fun h=>False.elim (by revert h;first | (simp [c1];done) | fail))) | (refine sd ?_))
  repeat (first | (refine zB.intro (fun _=>?_) (fun hn=>absurd rfl hn)) | (refine ky0 ?_) | (refine kn0 ?_) | (refine ky ?_) | (refine kn ?_) | (refine sd ?_))
  refine Ret.intro (.tup [.nsl,.ff]) [] [] rfl ?_ (Or.inl ⟨hB,rfl,rfl⟩) rfl ?_ rfl ?_ rfl
  ·exact fc
  ·exact fc
  ·exact fc
 have c2:x.fi = 0:=Classical.not_not.1 c2
 have c5:¬ (UInt16.ofNat 0).toNat < x.fi.toNat:=by rw [c2];exact Nat.lt_irrefl _
 repeat (first | (refine zB.intro (fun h=>False.elim (by revert h;first | (simp [c1];done) | fail)) (fun _=>?_)) | (refine zB.intro (fun _=>?_) (fun h=>False.elim (by revert h;first | (simp [c1];done) | fail))) | (refine sd ?_))
 repeat (first | (refine zB.intro (fun _=>?_) (fun hn=>absurd rfl hn)) | (refine ky0 ?_) | (refine kn0 ?_) | (refine ky ?_) | (refine kn ?_) | (refine sd ?_))
 repeat (first | (refine zB.intro (fun h=>False.elim (by revert h;first | (simp [c1];done) | fail)) (fun _=>?_)) | (refine zB.intro (fun _=>?_) (fun h=>False.elim (by revert h;first | (simp [c1];done) | fail))) | (refine sd ?_))
 repeat (first | (refine zB.intro (fun _=>?_) (fun hn=>absurd rfl hn)) | (refine ky0 ?_) | (refine kn0 ?_) | (refine ky ?_) | (refine kn ?_) | (refine sd ?_))
 refine Cut.intro (σ:=Unit) (fun _=>True) (fun _=>([(1,.iep 0 0 1 (acL x (.isl 0 N 33 [(N * 33,.arr N 33 (onF l))])))],[])) () trivial (Le.ghost [.keep 1] [(1,0)] [] rfl ?_ rfl rfl ?_ rfl ?_ rfl) ?_
 ·exact fc
 ·exact fc
 ·exact fc
 rintro - -
 refine Draw.intro [[],[0],[],[2],[],[4],[4,5],[],[7],[7,8],[7,8,9],[0,1,2,3,4,5,6,7,8,9,10],[0,1,2,3,4,5,6,7,8,9,10,11]] [0,1,2,3,4,5,6,7,8,9,10,11,12] (by kernel_rfl) ?_
 repeat (first | (refine Grow.turn rfl rfl ?_) | (refine sd ?_))
 refine Call.intro (fnNumI x.nx) [] rfl ?_ rfl ?_ rfl ?_
 ·exact fc
 ·exact fc
 rintro v M' ⟨rfl,rfl⟩
 dsimp only [zt,zM,zE,ren,zz,zx,zy,look,zG,zX,ev,evL,zV,zcT,zcF,act,zP,zO,Ent.zW]
 repeat (first | (refine Grow.turn rfl rfl ?_) | (refine sd ?_))
 refine Cut.intro (σ:=Unit) (fun _=>True) (fun _=>([(1,.iep 0 0 1 (acL x (.isl 0 N 33 [(N * 33,.arr N 33 (onF l))]))),(4,.sl 204 0 0 4 4)],[(204,.mem true (zmE (4 - 4) 1) [(4 * 1,.arr 4 1 (rwF (acP x)))])])) () trivial (Le.intro [(204,(28,0,none))] rfl ?_ rfl ?_ rfl) ?_
 ·exact fc
 ·repeat' (first | (show zA _;first | exact trivial | refine zA.app ?_ ?_ | refine zA.zd ?_ ?_ | refine zA.cons ?_ ?_) | exact fd | fail)
  all_goals first | exact rwK rfl h1 | exact rwK rfl h2 | exact rwK rfl h3 | exact rwK rfl (putB_length _ _) | trace_state
 rintro - -
 have hkx:∀ i,i < N->OnOK (l.getD i on0):=fun i hi=>hlO _ (getD_mem on0 (by omega))
 repeat (refine sd ?_)
 refine Loop.intro (σ:=Nat × Nat) (fun s=>s.1 <= N/\4 + s.1 <= s.2)
  (fun s=>([(1,.iep 0 0 1 (acL x (.isl 0 N 33 [(N * 33,.arr N 33 (onF l))]))),(4,.sl 204 0 0 (4 + s.1) s.2),(5,.i .i64 (s.1:Int))],[(204,.mem true (zmE (s.2 - (4 + s.1)) 1) [((4 + s.1) * 1,.arr (4 + s.1) 1 (rwF (acA x (l.take s.1))))])]))
  (fun s=>N - s.1) (0,4) ⟨Nat.zero_le _,Nat.le_refl _⟩ ?_ ?_
 ·refine Le.intro [(204,(204,0,none))] rfl ?_ rfl ?_ rfl
  ·exact fc
  ·exact fc
 rintro ⟨i,c⟩ ⟨hi,hc2⟩
 have hi:i <= N:=hi
 have hc2:4 + i <= c:=hc2
 repeat (refine sd ?_)
 refine zB.intro (fun hb=>?_) (fun hb=>?_)
 ·have hb:(i:Int) < (N:Int):=hb
  have him:i < N:=by omega
  obtain ⟨kk,hkk⟩:∃ kk,l.getD i on0 = kk:=⟨_,rfl⟩
  have hkO:=hkx i him
  rw [hkk] at hkO
  have k1:kk.2.length = 32:=hkO
  have hQl:=putB_length kk.1.toNat 2
  have hK34:=acK_length hkO
  have e:addQ 0 (Int.toNat (i:Int)) = i:=by rw [zQ,Nat.zero_add,zIn]
  have hNu:=fn69 kk.1.toNat 2 (by decide) (by decide) (UInt16.toNat_lt _) (by have:=UInt16.toNat_lt kk.1;omega)
  obtain ⟨Bk,hBk⟩:∃ B,putB kk.1.toNat 2 = B:=⟨_,rfl⟩
  rw [hBk] at hQl hNu
  repeat (refine sd ?_)
  refine Call.intro hNu [(1001,(301,0,none))] rfl ?_ rfl ?_ rfl ?_
  ·repeat' (first | (show zA _;first | exact trivial | refine zA.app ?_ ?_ | refine zA.zd ?_ ?_ | refine zA.cons ?_ ?_) | exact fd | fail)
   all_goals first | (simp only [Ix.val,e,hkk];done) | trace_state
  ·exact fc
  rintro v M' ⟨rfl,rfl⟩
  dsimp only [zt,zM,zE,ren,zz,zx,zy,look,zG,zX,ev,evL,zV,zcT,zcF,act,zP,zO,Ent.zW]
  have hlA:(acA x (l.take i)).length = 4 + i:=by rw [acA_length,zlT];omega
  have hrw:=rw_next' hlA hK34
  have hsu:=acA_succ x (l:=l) (i:=i) (by omega)
  rw [hkk] at hsu
  have hAk:acK kk = Bk ++ kk.2:=by unfold acK;rw [hBk]
  have e9:(l.getD (addQ 0 (Ix.dyn (Int.toNat (i:Int))).val) on0).2 = kk.2:=by rw [show addQ 0 (Ix.dyn (Int.toNat (i:Int))).val = i from e,hkk]
  have eD:dropQ (addI none 0) Bk ++ List.take 32 (List.drop 0 kk.2) = acK kk:=by
   rw [hAk,List.drop_zero,List.take_of_length_le (by omega)]
   rfl
  repeat (refine sd ?_)
  refine fun c1 hc1=>?_
  repeat (refine sd ?_)
  refine fun c' hc'=>?_
  have hc':4 + i + 1 <= c':=hc'
  repeat (refine sd ?_)
  refine ⟨(i + 1,c'),⟨by show i + 1 <= N;omega,by show 4 + (i + 1) <= c';omega⟩,by show N - (i + 1) < N - i;omega,Le.intro [(204,(54,0,none))] rfl ?_ rfl ?_ rfl⟩
  ·exact fc
  ·repeat' (first | (show zA _;first | exact trivial | refine zA.app ?_ ?_ | refine zA.zd ?_ ?_ | refine zA.cons ?_ ?_) | exact fd | fail)
   all_goals first | (show ∀ q,q < 4 + i + 1->rwF (acA x (l.take (i + 1))) q = appF (4 + i) (shiftF 0 (rwF (acA x (l.take i)))) (rowF [[(1,.isl 0 34 1 [(34,.a8 (dropQ (addI none 0) Bk ++ List.take 32 (List.drop 0 (l.getD (addQ 0 (Ix.dyn (Int.toNat (i:Int))).val) on0).2)))])]]) q;rw [hsu,e9,eD];exact hrw) | trace_state
 have hb:¬ (i:Int) < (N:Int):=hb
 obtain rfl:i = N:=by omega
 have hlt:l.take i = l:=List.take_of_length_le (by omega)
 rw [hlt]
 have hJo:=acA_ok hx hlO (by omega)
 repeat (refine sd ?_)
 refine Call.intro (fn70 (acA x l) (4 + i) (by rw [acA_length,hN]) (by omega) (fun y hy=>by have:=hJo.2 y hy;omega)) [(1003,(204,0,none)),(1001,(302,0,none))] rfl ?_ rfl ?_ rfl ?_
 ·exact fc
 ·exact fc
 rintro v M' (⟨hj,_⟩ | ⟨c3,N3,hJ3,hN3,hNc3,rfl,rfl⟩)
 ·exact absurd hJo hj
 dsimp only [zt,zM,zE,ren,zz,zx,zy,look,zG,zX,ev,evL,zV,zcT,zcF,act,zP,zO,Ent.zW]
 repeat (refine sd ?_)
 refine Ret.intro (.tup [.sl 1006 0 0 N3 c3,.tt]) [(1006,.mem true (c3 - N3) [(N3,.a8 (jnB (acA x l)))])] [(1006,(302,0,none))] rfl ?_ (Or.inr ⟨by omega,c2,N3,c3,hN3,hNc3,rfl,rfl⟩) rfl ?_ rfl ?_ rfl
 ·exact fc
 ·exact fc
 ·exact fc
end Go.Proofs.YtfnmgbillkiabaaGreat
