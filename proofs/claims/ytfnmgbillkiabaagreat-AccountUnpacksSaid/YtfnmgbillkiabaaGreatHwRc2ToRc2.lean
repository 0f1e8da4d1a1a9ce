/- What the functions of the program compute. No condition. -/
import Derived.Test.YtfnmgbillkiabaaGreatHwRy3ToRy7
import Derived.Test.YtfnmgbillkiabaaGreatHx8
set_option linter.unusedSimpArgs false
set_option linter.unusedVariables false
set_option maxRecDepth 100000
namespace Go.Proofs.YtfnmgbillkiabaaGreat
open Go Go.Sx
def splR:Nat->List UInt8->Option (List (List UInt8))
 | 0,[]=>some []
 | 0,_ :: _=>none
 | k + 1,b=>if b.length < 2 then none else if 4096 < (b.getD 0 0).toNat * 256 + (b.getD 1 0).toNat then none else if (b.drop 2).length < (b.getD 0 0).toNat * 256 + (b.getD 1 0).toNat then none else
   (splR k ((b.drop 2).drop ((b.getD 0 0).toNat * 256 + (b.getD 1 0).toNat))).map fun L=>(b.drop 2).take ((b.getD 0 0).toNat * 256 + (b.getD 1 0).toNat) :: L
def spl (b:List UInt8):Option (List (List UInt8)):=if b.length = 0 then none else if 64 < (b.getD 0 0).toNat then none else splR (b.getD 0 0).toNat (b.drop 1)
theorem splR_zero (b:List UInt8):splR 0 b = if b.length = 0 then some [] else none:=by cases b <;> rfl
theorem splR_succ (k:Nat) (b:List UInt8):splR (k + 1) b = if b.length < 2 then none else if 4096 < (b.getD 0 0).toNat * 256 + (b.getD 1 0).toNat then none else if (b.drop 2).length < (b.getD 0 0).toNat * 256 + (b.getD 1 0).toNat then none else
   (splR k ((b.drop 2).drop ((b.getD 0 0).toNat * 256 + (b.getD 1 0).toNat))).map fun L=>(b.drop 2).take ((b.getD 0 0).toNat * 256 + (b.getD 1 0).toNat) :: L:=rfl
theorem spl_eq (b:List UInt8):spl b = if b.length = 0 then none else if 64 < (b.getD 0 0).toNat then none else splR (b.getD 0 0).toNat (b.drop 1):=rfl
attribute [irreducible] splR spl
theorem splR_short {k:Nat} {b:List UInt8} (h:b.length < 2):splR (k + 1) b = none:=by rw [splR_succ,if_pos h]
theorem splR_long {k:Nat} {b:List UInt8} (h:¬ b.length < 2) (h2:4096 < (b.getD 0 0).toNat * 256 + (b.getD 1 0).toNat):splR (k + 1) b = none:=by rw [splR_succ,if_neg h,if_pos h2]
theorem splR_end {k:Nat} {b:List UInt8} (h:¬ b.length < 2) (h2:¬ 4096 < (b.getD 0 0).toNat * 256 + (b.getD 1 0).toNat) (h3:(b.drop 2).length < (b.getD 0 0).toNat * 256 + (b.getD 1 0).toNat):splR (k + 1) b = none:=by rw [splR_succ,if_neg h,if_neg h2,if_pos h3]
theorem splR_go {k:Nat} {b:List UInt8} (h:¬ b.length < 2) (h2:¬ 4096 < (b.getD 0 0).toNat * 256 + (b.getD 1 0).toNat) (h3:¬ (b.drop 2).length < (b.getD 0 0).toNat * 256 + (b.getD 1 0).toNat) :
  splR (k + 1) b = (splR k ((b.drop 2).drop ((b.getD 0 0).toNat * 256 + (b.getD 1 0).toNat))).map fun L=>(b.drop 2).take ((b.getD 0 0).toNat * 256 + (b.getD 1 0).toNat) :: L:=by rw [splR_succ,if_neg h,if_neg h2,if_neg h3]
theorem splR_join:∀ (L:List (List UInt8)),(∀ x ∈ L,x.length <= 4096)->splR L.length (jnR L) = some L
 | [],_=>by rw [show ([]:List (List UInt8)).length = 0 by rfl,splR_zero];rfl
 | x :: r,h=>by
  have hx:=h x (List.mem_cons_self ..)
  have ih:=splR_join r fun y hy=>h y (List.mem_cons_of_mem _ hy)
  have e:jnR (x :: r) = [UInt8.ofNat (x.length / 256),UInt8.ofNat x.length] ++ x ++ jnR r:=rfl
  have e0:((jnR (x :: r)).getD 0 0).toNat * 256 + ((jnR (x :: r)).getD 1 0).toNat = x.length:=by
   rw [e]
   show (UInt8.ofNat (x.length / 256)).toNat * 256 + (UInt8.ofNat x.length).toNat = _
   rw [UInt8.toNat_ofNat',UInt8.toNat_ofNat']
   omega
  have e1:(jnR (x :: r)).drop 2 = x ++ jnR r:=by rw [e];rfl
  have el:(jnR (x :: r)).length = 2 + x.length + (jnR r).length:=by rw [e];simp only [zlA,List.length_cons,List.length_nil]
  rw [List.length_cons,splR_go (by omega) (by omega) (by rw [e0,e1,zlA];omega),e0,e1,List.drop_left,List.take_left,ih]
  rfl
theorem spl_join {L:List (List UInt8)} (h:Joins L):spl (jnB L) = some L:=by
 have h1:((jnB L).getD 0 0).toNat = L.length:=by
  rw [jnB_eq]
  show (UInt8.ofNat L.length).toNat = _
  rw [UInt8.toNat_ofNat']
  have:=h.1
  omega
 have h2:(jnB L).drop 1 = jnR L:=by rw [jnB_eq];rfl
 have h3:(jnB L).length ≠ 0:=by rw [jnB_eq];simp
 rw [spl_eq,if_neg h3,h1,if_neg (by have:=h.1;omega),h2]
 exact splR_join L h.2
theorem fn_nilI {P:Program} {f:FuncId} {args:List SV} {M0:Mm} {R R':SV->Mm->Prop} (h:Sx.Fn P f args M0 R) (hR:∀ v M,R v M->R' v M \/ (v = .nsl/\R' (.isl 0 0 1 [(0,.a8 [])]) M)):Sx.Fn P f args M0 R':=by
 intro ρ xs w a b
 refine Calls.mono (h ρ xs w a b) ?_
 rintro e w' ⟨v,x,ρ',M',e1,e2,e3,e4,e5,e6⟩
 rcases hR v M' e3 with k | ⟨rfl,k⟩
 ·exact ⟨v,x,ρ',M',e1,e2,k,e4,e5,e6⟩
 ·have e2:x = .slice none 0 0:=e2
  have hh:zRT ρ' (.isl 0 0 1 [(0,.a8 [])]) x:=show Rel ρ' (.isl 0 0 1 [(0,.a8 [])]) x from ⟨0,0,0,none,Or.inr ⟨rfl,rfl,trivial⟩,Nat.le_refl _,e2,fun h=>absurd rfl h⟩
  exact ⟨.isl 0 0 1 [(0,.a8 [])],x,ρ',M',e1,hh,k,e4,e5,e6⟩
theorem fnCloneI (b:List UInt8) (n i m:Nat) (hb:b.length = n) (hm:i + m <= n) (hm1:m <= 1000000) (hn:n <= maxLen) :
  Sx.Fn Γ.P 108 [.isl i m 1 [(n,.a8 b)]] [] (fun v M=>v = .isl 0 m 1 [(m,.a8 ((b.drop i).take m))]/\M = []):=by
 have hmx:maxLen = 9223372036854775807:=by decide
 refine fn_nilI (R:=fun v M=>(v = .isl 0 m 1 [(m,.a8 ((b.drop i).take m))]/\M = []) \/ (m = 0/\v = .nsl/\M = [])) ?_ ?_
 ·refine fn_of (Γ:=Γ) (fn:=Tryz.f108) rfl rfl rfl rfl ?_
  repeat (refine sd ?_)
  refine fun p hp=>?_
  repeat (refine sd ?_)
  refine zB.intro (fun hc=>?_) (fun hc=>?_)
  ·have h0:m = 0:=by
    rcases Nat.eq_zero_or_pos m with h | h
    ·exact h
    ·exact absurd hc (hp h)
   repeat (refine sd ?_)
   refine Ret.intro .nsl [] [] rfl ?_ (Or.inr ⟨h0,rfl,rfl⟩) rfl ?_ rfl ?_ rfl
   ·exact fc
   ·exact fc
   ·exact fc
  ·repeat (refine sd ?_)
   refine fun c hc=>?_
   have hc:0 + m <= c:=hc
   have hl:((b.drop i).take m).length = m:=by rw [zlT,zlD];omega
   repeat (refine sd ?_)
   refine Ret.ghost [.keep 7] [(2,0)] rfl ?_ rfl (.isl 0 m 1 [(m,.a8 ((b.drop i).take m))]) [] [] rfl ?_ (Or.inl ⟨rfl,rfl⟩) rfl ?_ rfl ?_ rfl
   ·exact fc
   ·exact fc
   ·exact fc
   ·exact fc
 ·rintro v M (h | ⟨rfl,rfl,rfl⟩)
  ·exact Or.inl h
  ·exact Or.inr ⟨rfl,rfl,rfl⟩
def spI (b:List UInt8) (n:Nat):Nat->List (List UInt8) × Nat × Nat × Nat × Nat × Int->Prop
 | 0,s=>spl b = none/\s.2.2.2.2.2 ≠ 0
 | 1,s=>s.1.length = s.2.1/\s.2.1 <= s.2.2.1/\s.2.2.2.1 <= n/\s.2.1 <= 64/\spl b = (splR 0 (b.drop s.2.2.2.1)).map fun r=>s.1 ++ r
 | _,s=>s.1.length = s.2.1/\s.2.1 <= s.2.2.1/\s.2.2.2.1 <= n/\s.2.1 + s.2.2.2.2.1 <= 64/\spl b = (splR s.2.2.2.2.1 (b.drop s.2.2.2.1)).map fun r=>s.1 ++ r
def spS (b:List UInt8) (n:Nat):Nat->List (List UInt8) × Nat × Nat × Nat × Nat × Int->Tm × Mm
 | 0,s=>([(7,.i .i64 s.2.2.2.2.2)],[])
 | 1,s=>([(0,.isl s.2.2.2.1 (n - s.2.2.2.1) 1 [(n,.a8 b)]),(4,.sl 204 0 0 s.2.1 s.2.2.1)],[(204,.mem true (zmE (s.2.2.1 - s.2.1) 1) [(s.2.1 * 1,.arr s.2.1 1 (rwF s.1))])])
 | _,s=>([(0,.isl s.2.2.2.1 (n - s.2.2.2.1) 1 [(n,.a8 b)]),(4,.sl 204 0 0 s.2.1 s.2.2.1),(5,.i .i64 (s.2.2.2.2.1:Int)),(7,.i .i64 20)],[(204,.mem true (zmE (s.2.2.1 - s.2.1) 1) [(s.2.1 * 1,.arr s.2.1 1 (rwF s.1))])])
def spM:Nat->List (List UInt8) × Nat × Nat × Nat × Nat × Int->Nat
 | 0,_=>0
 | 1,_=>1
 | _,s=>s.2.2.2.2.1 + 2
theorem or_pq {p q z:Nat} (hp:p < 256) (hq:q < 256) (hz:p * 256 + q = z):((p:Int) * 2 ^ 8).toNat ||| ((q:Nat):Int).toNat = z:=by
 have e1:((p:Int) * 2 ^ 8).toNat = 2 ^ 8 * p:=by omega
 rw [e1,zIn,<- Nat.two_pow_add_eq_or_of_lt hq]
 omega
theorem getD_drop0 (b:List UInt8) (i j:Nat):(b.drop i).getD j 0 = b.getD (i + j) 0:=by
 rw [List.getD_eq_getElem?_getD,List.getD_eq_getElem?_getD,List.getElem?_drop]
theorem rw_next' {x:List UInt8} {A:List (List UInt8)} {k z:Nat} (hk:A.length = k) (hx:x.length = z):∀ q,q < k + 1->rwF (A ++ [x]) q = appF k (shiftF 0 (rwF A)) (rowF [[(1,.isl 0 z 1 [(z,.a8 x)])]]) q:=by
 intro q hq
 subst hx
 rw [rw_next hk q hq]
 by_cases h:q < k
 ·rw [appF_lt h,appF_lt h,shiftF_eq,Nat.zero_add]
 ·rw [appF_ge (Nat.le_of_not_lt h),appF_ge (Nat.le_of_not_lt h),Nat.mul_one]
theorem sp_go {b:List UInt8} {n:Nat} {bo:Option Nat} {l:Nat} {T:Tm} {M:Mm} (s:List (List UInt8) × Nat × Nat × Nat × Nat × Int) (h:memB l [2,1,0] = true) (h1:spI b n l s) (h2:ltO (spM l s) bo) (h3:Le [] (spS b n l s).1 (spS b n l s).2 T M) :
  memB l [2,1,0] = true/\∃ s,spI b n l s/\ltO (spM l s) bo/\Le [] (spS b n l s).1 (spS b n l s).2 T M:=⟨h,s,h1,h2,h3⟩
set_option maxHeartbeats 4000000 in
theorem fn59 (b:List UInt8) (n:Nat) (hb:b.length = n) (hn:n <= maxLen):Sx.Fn Γ.P 59 [.isl 0 n 1 [(n,.a8 b)]] []
  (fun v M=>(spl b = none/\(∃ e:Int,e ≠ 0/\v = .tup [.nsl,.i .i64 e])/\M = []) \/ ∃ L m c,spl b = some L/\L.length = m/\m <= c/\m <= 64/\v = .tup [.sl 1006 0 0 m c,.i .i64 0]/\M = [(1006,.mem true (zmE (c - m) 1) [(m * 1,.arr m 1 (rwF L))])]):=by
 have hmx:maxLen = 9223372036854775807:=by decide
 have hbd:(Tryz.f59).body = some (.seq _ (.scope _)):=rfl
 refine fn_scope [8,14] (Γ:=Γ) (fn:=Tryz.f59) rfl hbd rfl rfl ?_
 clear hbd
 repeat (refine sd ?_)
 refine ScopeG.intro [2,1,0] (spI b n) (spS b n) spM rfl ?_ ⟨?_,?_,?_,trivial⟩
 ·repeat (refine sd ?_)
  refine zB.intro (fun hz=>?_) (fun hz=>?_)
  ·have hz:(n:Int) = 0:=hz
   repeat (refine sd ?_)
   refine sp_go ([],0,0,0,0,20) rfl ⟨by rw [spl_eq,if_pos (by omega)],by decide⟩ trivial (Le.intro [] rfl ?_ rfl ?_ rfl)
   ·exact fc
   ·exact fc
  have hz:¬ (n:Int) = 0:=hz
  repeat (refine sd ?_)
  refine Draw.intro [[],[0],[0,1],[0,1,2],[],[4],[0,1,2,3],[0,1,2,3,4,5,6]] [0,1,2,3,4,5,6,7] (by kernel_rfl) ?_
  repeat (refine sd ?_)
  obtain ⟨u,hu⟩:∃ u,(b.getD 0 0).toNat = u:=⟨_,rfl⟩
  refine zB.intro (fun hg=>?_) (fun hg=>?_)
  ·have hg:64 < ((b.getD (addQ 0 0) 0).toNat:Int):=hg
   rw [zQ,Nat.add_zero,hu] at hg
   repeat (refine sd ?_)
   refine sp_go ([],0,0,0,0,4) rfl ⟨by rw [spl_eq,if_neg (by omega),hu,if_pos (by omega)],by decide⟩ trivial (Le.intro [] rfl ?_ rfl ?_ rfl)
   ·exact fc
   ·exact fc
  have hg:¬ 64 < ((b.getD (addQ 0 0) 0).toNat:Int):=hg
  rw [zQ,Nat.add_zero,hu] at hg
  repeat (refine sd ?_)
  have h0:spI b n 2 ([],0,0,1,u,0):=by
   refine ⟨rfl,Nat.le_refl 0,by show 1 <= n;omega,by show 0 + u <= 64;omega,?_⟩
   rw [spl_eq,if_neg (by omega),hu,if_neg (by omega)]
   show splR u (b.drop 1) = (splR u (b.drop 1)).map fun r=>[] ++ r
   cases splR u (b.drop 1) <;> rfl
  refine Cut.intro (σ:=List (List UInt8) × Nat × Nat × Nat × Nat × Int) (spI b n 2) (fun s=>([(0,.isl s.2.2.2.1 (n - s.2.2.2.1) 1 [(n,.a8 b)]),(4,.sl 204 0 0 s.2.1 s.2.2.1),(5,.i .i64 (s.2.2.2.2.1:Int)),(7,.i .i64 20)],[(204,.mem true (zmE (s.2.2.1 - s.2.1) 1) [(s.2.1 * 1,.arr s.2.1 1 (rwF s.1))])])) ([],0,0,1,u,0) h0 (Le.ghost [.own 204 [(0 * 1,.arr 0 1 (rwF []))]] [(4,204)] [] rfl ?_ rfl rfl ?_ rfl ?_ rfl) ?_
  ·repeat' (first | (show zA _;first | exact trivial | refine zA.app ?_ ?_ | refine zA.zd ?_ ?_ | refine zA.cons ?_ ?_) | exact fd | fail)
   all_goals exact ⟨rfl,rfl,trivial⟩
  ·exact fc
  ·exact fc
  clear hz hg
  rintro ⟨L,j,c,i,left,e⟩ ⟨h1,h2,h3,h4,h5⟩
  have h1:L.length = j:=h1
  have h2:j <= c:=h2
  have h3:i <= n:=h3
  have h4:j + left <= 64:=h4
  have h5:spl b = (splR left (b.drop i)).map fun r=>L ++ r:=h5
  repeat (refine sd ?_)
  refine zB.intro (fun hz=>?_) (fun hz=>?_)
  ·have hz:(left:Int) = 0:=hz
   obtain rfl:left = 0:=by omega
   repeat (refine sd ?_)
   refine sp_go (b:=b) (n:=n) (l:=1) (bo:=none) (L,j,c,i,0,0) rfl ⟨h1,h2,h3,by show j <= 64;omega,h5⟩ trivial (Le.intro [(204,(204,0,none))] rfl ?_ rfl ?_ rfl)
   ·exact fc
   ·exact fc
  have hz:¬ (left:Int) = 0:=hz
  obtain ⟨k,rfl⟩:∃ k,left = k + 1:=⟨left - 1,by omega⟩
  repeat (refine sd ?_)
  refine zB.intro (fun hs=>?_) (fun hs=>?_)
  ·have hs:((n - i:Nat):Int) < 2:=hs
   repeat (refine sd ?_)
   refine sp_go (b:=b) (n:=n) (l:=0) (bo:=none) ([],0,0,0,0,20) rfl ⟨by rw [h5,splR_short (by rw [zlD];omega)];rfl,by decide⟩ trivial (Le.intro [] rfl ?_ rfl ?_ rfl)
   ·exact fc
   ·exact fc
  have hs:¬ ((n - i:Nat):Int) < 2:=hs
  repeat (refine sd ?_)
  obtain ⟨p,hp⟩:∃ p,(b.getD i 0).toNat = p:=⟨_,rfl⟩
  obtain ⟨q,hq⟩:∃ q,(b.getD (i + 1) 0).toNat = q:=⟨_,rfl⟩
  have hp0:(b.getD (i + 0) 0).toNat = p:=hp
  have hp1:p < 256:=by rw [<- hp];exact UInt8.toNat_lt _
  have hq1:q < 256:=by rw [<- hq];exact UInt8.toNat_lt _
  obtain ⟨z,hz⟩:∃ z,p * 256 + q = z:=⟨_,rfl⟩
  have hor:((p:Int) * 2 ^ 8).toNat ||| ((q:Nat):Int).toNat = z:=or_pq hp1 hq1 hz
  have hor':((p:Int) * 256).toNat ||| q = z:=by have:=hor;rw [zIn] at this;exact this
  have hlen:((b.drop i).getD 0 0).toNat * 256 + ((b.drop i).getD 1 0).toNat = z:=by rw [getD_drop0,getD_drop0,Nat.add_zero,hp,hq];exact hz
  have hl2:¬ (b.drop i).length < 2:=by rw [zlD];omega
  refine Draw.intro [[],[0],[0,1],[0,1,2],[0,1,2,3],[],[5],[5,6],[5,6,7],[0,1,2,3,4,5,6,7,8],[],[10],[0,1,2,3,4,5,6,7,8,9],[0,1,2,3,4,5,6,7,8,9,10,11,12]] [0,1,2,3,4,5,6,7,8,9,10,11,12,13] (by kernel_rfl) ?_
  repeat (refine sd ?_)
  refine zB.intro (fun hg=>?_) (fun hg=>?_)
  ·have hg:4096 < ((((((b.getD (addQ i 0) 0).toNat:Int) * 2 ^ 8).toNat ||| (((b.getD (addQ i 1) 0).toNat:Nat):Int).toNat:Nat)):Int):=hg
   rw [zQ,zQ,hp0,hq,hor] at hg
   repeat (refine sd ?_)
   refine sp_go (b:=b) (n:=n) (l:=0) (bo:=none) ([],0,0,0,0,5) rfl ⟨by rw [h5,splR_long hl2 (by rw [hlen];omega)];rfl,by decide⟩ trivial (Le.intro [] rfl ?_ rfl ?_ rfl)
   ·exact fc
   ·exact fc
  have hg:¬ 4096 < ((((((b.getD (addQ i 0) 0).toNat:Int) * 2 ^ 8).toNat ||| (((b.getD (addQ i 1) 0).toNat:Nat):Int).toNat:Nat)):Int):=hg
  rw [zQ,zQ,hp0,hq,hor] at hg
  repeat (refine sd ?_)
  refine zB.intro (fun hv=>?_) (fun hv=>?_)
  ·have hv:((n - i - 2:Nat):Int) < ((((((b.getD (addQ i 0) 0).toNat:Int) * 2 ^ 8).toNat ||| (((b.getD (addQ i 1) 0).toNat:Nat):Int).toNat:Nat)):Int):=hv
   rw [zQ,zQ,hp0,hq,hor] at hv
   repeat (refine sd ?_)
   refine sp_go (b:=b) (n:=n) (l:=0) (bo:=none) ([],0,0,0,0,20) rfl ⟨by rw [h5,splR_end hl2 (by rw [hlen];omega) (by rw [hlen,zlD,zlD];omega)];rfl,by decide⟩ trivial (Le.intro [] rfl ?_ rfl ?_ rfl)
   ·exact fc
   ·exact fc
  have hv:¬ ((n - i - 2:Nat):Int) < ((((((b.getD (addQ i 0) 0).toNat:Int) * 2 ^ 8).toNat ||| (((b.getD (addQ i 1) 0).toNat:Nat):Int).toNat:Nat)):Int):=hv
  rw [zQ,zQ,hp0,hq,hor] at hv
  repeat (refine sd ?_)
  refine Cut.intro (σ:=Unit) (fun _=>True) (fun _=>([(0,.isl (i + 2) (n - i - 2) 1 [(n,.a8 b)]),(4,.sl 204 0 0 j c),(5,.i .i64 ((k + 1:Nat):Int)),(6,.i .i64 (z:Int)),(7,.i .i64 20)],[(204,.mem true (zmE (c - j) 1) [(j * 1,.arr j 1 (rwF L))])])) () trivial (Le.intro [(204,(204,0,none))] rfl ?_ rfl ?_ rfl) ?_
  ·repeat' (first | (show zA _;first | exact trivial | refine zA.app ?_ ?_ | refine zA.zd ?_ ?_ | refine zA.cons ?_ ?_) | exact fd | fail)
   all_goals (show (z:Int) = ((((((b.getD (addQ i 0) 0).toNat:Int) * 2 ^ 8).toNat ||| (((b.getD (addQ i 1) 0).toNat:Nat):Int).toNat:Nat)):Int);rw [zQ,zQ,hp0,hq,hor])
  ·exact fc
  rintro - -
  have hN5:spl b = (splR k (b.drop (i + 2 + z))).map fun r=>(L ++ [(b.drop (i + 2)).take z]) ++ r:=by
   rw [h5,splR_go hl2 (by rw [hlen];omega) (by rw [hlen,zlD,zlD];omega),hlen,List.drop_drop,List.drop_drop,Option.map_map]
   congr 1
   funext r
   simp
  clear hor hor' hlen hz hp0 hp hq
  refine Draw.intro [[],[],[],[1,2],[1,2,3],[1,2,3,4],[0,1,2,3,4,5],[],[],[7,8],[0,1,2,3,4,5,6],[0,1,2,3,4,5,6,7,8,9,10]] [0,1,2,3,7,8,9,4,5,6,10,11] (by kernel_rfl) ?_
  repeat (first | (refine Grow.turn rfl rfl ?_) | (refine sd ?_))
  refine Call.intro (fnCloneI b n (i + 2) z hb (by omega) (by omega) hn) [] rfl ?_ rfl ?_ rfl ?_
  ·exact fc
  ·exact fc
  rintro v M' ⟨rfl,rfl⟩
  dsimp only [zt,zM,zE,ren,zz,zx,zy,look,zG,zX,ev,evL,zV,zcT,zcF,act,zP,zO,Ent.zW]
  repeat (first | (refine Grow.turn rfl rfl ?_) | (refine sd ?_))
  refine fun c' hc'=>?_
  have hc':j + 1 <= c':=hc'
  repeat (first | (refine Grow.turn rfl rfl ?_) | (refine sd ?_))
  have hn2:(L ++ [(b.drop (i + 2)).take z]).length = j + 1:=by rw [zlA,h1];rfl
  have hn5:spl b = (splR k (b.drop (i + 2 + z))).map fun r=>(L ++ [(b.drop (i + 2)).take z]) ++ r:=hN5
  have hpl:((b.drop (i + 2)).take z).length = z:=by rw [zlT,zlD];omega
  have hrw:=rw_next' h1 hpl
  refine sp_go (b:=b) (n:=n) (l:=2) (bo:=none) (L ++ [(b.drop (i + 2)).take z],j + 1,c',i + 2 + z,k,0) rfl ⟨hn2,hc',by show i + 2 + z <= n;omega,by show j + 1 + k <= 64;omega,hn5⟩ trivial (Le.intro [(204,(48,0,none))] rfl ?_ rfl ?_ rfl)
  ·exact fc
  ·repeat' (first | (show zA _;first | exact trivial | refine zA.app ?_ ?_ | refine zA.zd ?_ ?_ | refine zA.cons ?_ ?_) | exact fd | fail)
   all_goals exact hrw
 ·rintro ⟨L,j,c,i,left,e⟩ ⟨h1,h2,h3,h4,h5⟩
  have h1:L.length = j:=h1
  have h2:j <= c:=h2
  have h3:i <= n:=h3
  have h4:j + left <= 64:=h4
  have h5:spl b = (splR left (b.drop i)).map fun r=>L ++ r:=h5
  refine Cut.intro (σ:=Unit) (fun _=>True) (fun _=>([(0,.isl i (n - i) 1 [(n,.a8 b)]),(4,.sl 204 0 0 j c),(5,.i .i64 (left:Int)),(7,.i .i64 20)],[(204,.mem true (zmE (c - j) 1) [(j * 1,.arr j 1 (rwF L))])])) () trivial (Le.intro [(204,(204,0,none))] rfl ?_ rfl ?_ rfl) ?_
  ·exact fc
  ·exact fc
  rintro - -
  repeat (refine sd ?_)
  refine zB.intro (fun hz=>?_) (fun hz=>?_)
  ·have hz:(left:Int) = 0:=hz
   obtain rfl:left = 0:=by omega
   repeat (refine sd ?_)
   refine sp_go (b:=b) (n:=n) (l:=1) (bo:=(some 2)) (L,j,c,i,0,0) rfl ⟨h1,h2,h3,by show j <= 64;omega,h5⟩ (Nat.lt_succ_self 1) (Le.intro [(204,(204,0,none))] rfl ?_ rfl ?_ rfl)
   ·exact fc
   ·exact fc
  have hz:¬ (left:Int) = 0:=hz
  obtain ⟨k,rfl⟩:∃ k,left = k + 1:=⟨left - 1,by omega⟩
  repeat (refine sd ?_)
  refine zB.intro (fun hs=>?_) (fun hs=>?_)
  ·have hs:((n - i:Nat):Int) < 2:=hs
   repeat (refine sd ?_)
   refine sp_go (b:=b) (n:=n) (l:=0) (bo:=(some (k + 3))) ([],0,0,0,0,20) rfl ⟨by rw [h5,splR_short (by rw [zlD];omega)];rfl,by decide⟩ (Nat.succ_pos _) (Le.intro [] rfl ?_ rfl ?_ rfl)
   ·exact fc
   ·exact fc
  have hs:¬ ((n - i:Nat):Int) < 2:=hs
  repeat (refine sd ?_)
  obtain ⟨p,hp⟩:∃ p,(b.getD i 0).toNat = p:=⟨_,rfl⟩
  obtain ⟨q,hq⟩:∃ q,(b.getD (i + 1) 0).toNat = q:=⟨_,rfl⟩
  have hp0:(b.getD (i + 0) 0).toNat = p:=hp
  have hp1:p < 256:=by rw [<- hp];exact UInt8.toNat_lt _
  have hq1:q < 256:=by rw [<- hq];exact UInt8.toNat_lt _
  obtain ⟨z,hz⟩:∃ z,p * 256 + q = z:=⟨_,rfl⟩
  have hor:((p:Int) * 2 ^ 8).toNat ||| ((q:Nat):Int).toNat = z:=or_pq hp1 hq1 hz
  have hor':((p:Int) * 256).toNat ||| q = z:=by have:=hor;rw [zIn] at this;exact this
  have hlen:((b.drop i).getD 0 0).toNat * 256 + ((b.drop i).getD 1 0).toNat = z:=by rw [getD_drop0,getD_drop0,Nat.add_zero,hp,hq];exact hz
  have hl2:¬ (b.drop i).length < 2:=by rw [zlD];omega
  refine Draw.intro [[],[0],[0,1],[0,1,2],[0,1,2,3],[],[5],[5,6],[5,6,7],[0,1,2,3,4,5,6,7,8],[],[10],[0,1,2,3,4,5,6,7,8,9],[0,1,2,3,4,5,6,7,8,9,10,11,12]] [0,1,2,3,4,5,6,7,8,9,10,11,12,13] (by kernel_rfl) ?_
  repeat (refine sd ?_)
  refine zB.intro (fun hg=>?_) (fun hg=>?_)
  ·have hg:4096 < ((((((b.getD (addQ i 0) 0).toNat:Int) * 2 ^ 8).toNat ||| (((b.getD (addQ i 1) 0).toNat:Nat):Int).toNat:Nat)):Int):=hg
   rw [zQ,zQ,hp0,hq,hor] at hg
   repeat (refine sd ?_)
   refine sp_go (b:=b) (n:=n) (l:=0) (bo:=(some (k + 3))) ([],0,0,0,0,5) rfl ⟨by rw [h5,splR_long hl2 (by rw [hlen];omega)];rfl,by decide⟩ (Nat.succ_pos _) (Le.intro [] rfl ?_ rfl ?_ rfl)
   ·exact fc
   ·exact fc
  have hg:¬ 4096 < ((((((b.getD (addQ i 0) 0).toNat:Int) * 2 ^ 8).toNat ||| (((b.getD (addQ i 1) 0).toNat:Nat):Int).toNat:Nat)):Int):=hg
  rw [zQ,zQ,hp0,hq,hor] at hg
  repeat (refine sd ?_)
  refine zB.intro (fun hv=>?_) (fun hv=>?_)
  ·have hv:((n - i - 2:Nat):Int) < ((((((b.getD (addQ i 0) 0).toNat:Int) * 2 ^ 8).toNat ||| (((b.getD (addQ i 1) 0).toNat:Nat):Int).toNat:Nat)):Int):=hv
   rw [zQ,zQ,hp0,hq,hor] at hv
   repeat (refine sd ?_)
   refine sp_go (b:=b) (n:=n) (l:=0) (bo:=(some (k + 3))) ([],0,0,0,0,20) rfl ⟨by rw [h5,splR_end hl2 (by rw [hlen];omega) (by rw [hlen,zlD,zlD];omega)];rfl,by decide⟩ (Nat.succ_pos _) (Le.intro [] rfl ?_ rfl ?_ rfl)
   ·exact fc
   ·exact fc
  have hv:¬ ((n - i - 2:Nat):Int) < ((((((b.getD (addQ i 0) 0).toNat:Int) * 2 ^ 8).toNat ||| (((b.getD (addQ i 1) 0).toNat:Nat):Int).toNat:Nat)):Int):=hv
  rw [zQ,zQ,hp0,hq,hor] at hv
  repeat (refine sd ?_)
  refine Cut.intro (σ:=Unit) (fun _=>True) (fun _=>([(0,.isl (i + 2) (n - i - 2) 1 [(n,.a8 b)]),(4,.sl 204 0 0 j c),(5,.i .i64 ((k + 1:Nat):Int)),(6,.i .i64 (z:Int)),(7,.i .i64 20)],[(204,.mem true (zmE (c - j) 1) [(j * 1,.arr j 1 (rwF L))])])) () trivial (Le.intro [(204,(204,0,none))] rfl ?_ rfl ?_ rfl) ?_
  ·repeat' (first | (show zA _;first | exact trivial | refine zA.app ?_ ?_ | refine zA.zd ?_ ?_ | refine zA.cons ?_ ?_) | exact fd | fail)
   all_goals (show (z:Int) = ((((((b.getD (addQ i 0) 0).toNat:Int) * 2 ^ 8).toNat ||| (((b.getD (addQ i 1) 0).toNat:Nat):Int).toNat:Nat)):Int);rw [zQ,zQ,hp0,hq,hor])
  ·exact fc
  rintro - -
  have hN5:spl b = (splR k (b.drop (i + 2 + z))).map fun r=>(L ++ [(b.drop (i + 2)).take z]) ++ r:=by
   rw [h5,splR_go hl2 (by rw [hlen];omega) (by rw [hlen,zlD,zlD];omega),hlen,List.drop_drop,List.drop_drop,Option.map_map]
   congr 1
   funext r
   simp
  clear hor hor' hlen hz hp0 hp hq
  refine Draw.intro [[],[],[],[1,2],[1,2,3],[1,2,3,4],[0,1,2,3,4,5],[],[],[7,8],[0,1,2,3,4,5,6],[0,1,2,3,4,5,6,7,8,9,10]] [0,1,2,3,7,8,9,4,5,6,10,11] (by kernel_rfl) ?_
  repeat (first | (refine Grow.turn rfl rfl ?_) | (refine sd ?_))
  refine Call.intro (fnCloneI b n (i + 2) z hb (by omega) (by omega) hn) [] rfl ?_ rfl ?_ rfl ?_
  ·exact fc
  ·exact fc
  rintro v M' ⟨rfl,rfl⟩
  dsimp only [zt,zM,zE,ren,zz,zx,zy,look,zG,zX,ev,evL,zV,zcT,zcF,act,zP,zO,Ent.zW]
  repeat (first | (refine Grow.turn rfl rfl ?_) | (refine sd ?_))
  refine fun c' hc'=>?_
  have hc':j + 1 <= c':=hc'
  repeat (first | (refine Grow.turn rfl rfl ?_) | (refine sd ?_))
  have hn2:(L ++ [(b.drop (i + 2)).take z]).length = j + 1:=by rw [zlA,h1];rfl
  have hn5:spl b = (splR k (b.drop (i + 2 + z))).map fun r=>(L ++ [(b.drop (i + 2)).take z]) ++ r:=hN5
  have hpl:((b.drop (i + 2)).take z).length = z:=by rw [zlT,zlD];omega
  have hrw:=rw_next' h1 hpl
  refine sp_go (b:=b) (n:=n) (l:=2) (bo:=(some (k + 3))) (L ++ [(b.drop (i + 2)).take z],j + 1,c',i + 2 + z,k,0) rfl ⟨hn2,hc',by show i + 2 + z <= n;omega,by show j + 1 + k <= 64;omega,hn5⟩ (Nat.lt_succ_self _) (Le.intro [(204,(48,0,none))] rfl ?_ rfl ?_ rfl)
  ·exact fc
  ·repeat' (first | (show zA _;first | exact trivial | refine zA.app ?_ ?_ | refine zA.zd ?_ ?_ | refine zA.cons ?_ ?_) | exact fd | fail)
   all_goals exact hrw
 ·rintro ⟨L,j,c,i,left,e⟩ ⟨h1,h2,h3,h4,h5⟩
  show exec Γ [8,14] _ _ [(0,.isl i (n - i) 1 [(n,.a8 b)]),(4,.sl 204 0 0 j c)] [(204,.mem true (zmE (c - j) 1) [(j * 1,.arr j 1 (rwF L))])] _
  have h1:L.length = j:=h1
  have h2:j <= c:=h2
  have h3:i <= n:=h3
  have h4:j <= 64:=h4
  have h5:spl b = (splR 0 (b.drop i)).map fun r=>L ++ r:=h5
  repeat (refine sd ?_)
  refine zB.intro (fun hz=>?_) (fun hz=>?_)
  ·have hz:((n - i:Nat):Int) = 0:=hz
   repeat (refine sd ?_)
   refine Ret.intro (.tup [.sl 1006 0 0 j c,.i .i64 0]) [(1006,.mem true (zmE (c - j) 1) [(j * 1,.arr j 1 (rwF L))])] [(1006,(204,0,none))] rfl ?_ (Or.inr ⟨L,j,c,?_,h1,h2,h4,rfl,rfl⟩) rfl ?_ rfl ?_ rfl
   ·exact fc
   ·rw [h5,splR_zero,if_pos (by rw [zlD];omega)]
    simp
   ·exact fc
   ·exact fc
  have hz:¬ ((n - i:Nat):Int) = 0:=hz
  repeat (refine sd ?_)
  refine Ret.intro (.tup [.nsl,.i .i64 21]) [] [] rfl ?_ (Or.inl ⟨?_,⟨21,by decide,rfl⟩,rfl⟩) rfl ?_ rfl ?_ rfl
  ·exact fc
  ·rw [h5,splR_zero,if_neg (by rw [zlD];omega)]
   rfl
  ·exact fc
  ·exact fc
 ·rintro ⟨L,j,c,i,left,e⟩ ⟨h1,h2⟩
  show exec Γ [8,14] _ _ [(7,.i .i64 e)] [] _
  repeat (refine sd ?_)
  refine Ret.intro (.tup [.nsl,.i .i64 e]) [] [] rfl ?_ (Or.inl ⟨h1,⟨e,h2,rfl⟩,rfl⟩) rfl ?_ rfl ?_ rfl
  ·exact fc
  ·exact fc
  ·exact fc
end Go.Proofs.YtfnmgbillkiabaaGreat
