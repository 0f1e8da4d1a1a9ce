/- What the functions of the program compute. No condition. -/
import Derived.Test.YtimbdhpchlakfaaHwCu11ToCu11
import Derived.Test.YtimbdhpchlakfaaHwTabToTab
set_option linter.unusedSimpArgs false
set_option linter.unusedVariables false
namespace Go.Cu
open Go Go.Sx
structure LL where
 ax:List UInt64
 az:List UInt64
 bx:List UInt64
 bz:List UInt64
def LL.B (s:LL):Prop:=Lb s.ax∧Lb s.az∧Lb s.bx∧Lb s.bz
def LL.f (s:LL):LS:=⟨fv s.ax,fv s.az,fv s.bx,fv s.bz⟩
def LL.swap (s:LL):LL:=⟨s.bx,s.bz,s.ax,s.az⟩
def a24B:List UInt8:=UInt8.ofNat 65 :: UInt8.ofNat 219 :: UInt8.ofNat 1 :: List.replicate 29 0
theorem a24_f:fv (ofL a24B) = 121665:=by decide +kernel
theorem a24_lb:Lb (ofL a24B):=(ofL_val _).2
def stpA (s:LL):List UInt64:=mulL (mulL (addL s.ax s.az) (addL s.ax s.az)) (mulL (subL s.ax s.az) (subL s.ax s.az))
def stpE (s:LL):List UInt64:=subL (mulL (addL s.ax s.az) (addL s.ax s.az)) (mulL (subL s.ax s.az) (subL s.ax s.az))
def stpZ (s:LL):List UInt64:=mulL (stpE s) (addL (mulL (addL s.ax s.az) (addL s.ax s.az)) (mulL (ofL a24B) (stpE s)))
def stpD (s:LL):List UInt64:=mulL (subL s.bx s.bz) (addL s.ax s.az)
def stpC (s:LL):List UInt64:=mulL (addL s.bx s.bz) (subL s.ax s.az)
def stpL (u:List UInt64) (s:LL):LL:=
 ⟨stpA s,stpZ s,mulL (addL (stpD s) (stpC s)) (addL (stpD s) (stpC s)),mulL u (mulL (subL (stpD s) (stpC s)) (subL (stpD s) (stpC s)))⟩
theorem stpL_B (u:List UInt64) (s:LL):(stpL u s).B:=⟨mulL_lb _ _,mulL_lb _ _,mulL_lb _ _,mulL_lb _ _⟩
theorem stpL_f {u:List UInt64} {s:LL} (hu:Lb u) (h:s.B):(stpL u s).f = stepF (fv u) s.f:=by
 obtain ⟨h1,h2,h3,h4⟩:=h
 have p:=addL_fv h1 h2
 have m:=subL_fv h1 h2
 have lp:=addL_lb s.ax s.az
 have lm:=subL_lb s.ax s.az
 have e:fv (stpE s) = (fv s.ax + fv s.az) * (fv s.ax + fv s.az) - (fv s.ax - fv s.az) * (fv s.ax - fv s.az):=by
  unfold stpE
  rw [subL_fv (mulL_lb _ _) (mulL_lb _ _),mulL_fv lp lp,mulL_fv lm lm,p,m]
 have le:Lb (stpE s):=subL_lb _ _
 have d:fv (stpD s) = (fv s.bx - fv s.bz) * (fv s.ax + fv s.az):=by
  unfold stpD
  rw [mulL_fv (subL_lb _ _) lp,subL_fv h3 h4,p]
 have c:fv (stpC s) = (fv s.bx + fv s.bz) * (fv s.ax - fv s.az):=by
  unfold stpC
  rw [mulL_fv (addL_lb _ _) lm,addL_fv h3 h4,m]
 have ld:Lb (stpD s):=mulL_lb _ _
 have lc:Lb (stpC s):=mulL_lb _ _
 unfold stpL LL.f stepF
 simp only [LS.mk.injEq]
 refine ⟨?_,?_,?_,?_⟩
 ·unfold stpA
  rw [mulL_fv (mulL_lb _ _) (mulL_lb _ _),mulL_fv lp lp,mulL_fv lm lm,p,m]
 ·unfold stpZ
  rw [mulL_fv le (addL_lb _ _),addL_fv (mulL_lb _ _) (mulL_lb _ _),mulL_fv a24_lb le,mulL_fv lp lp,a24_f,e,p]
 ·rw [mulL_fv (addL_lb _ _) (addL_lb _ _),addL_fv ld lc,d,c]
 ·rw [mulL_fv hu (mulL_lb _ _),mulL_fv (subL_lb _ _) (subL_lb _ _),subL_fv ld lc,d,c]
attribute [irreducible] stpL
def bitU (c:List UInt8) (i:Nat):UInt8:=shr8 (c.getD (i / 8) 0) (i % 8) &&& UInt8.ofNat 1
theorem bitU_val (c:List UInt8) (i:Nat):(bitU c i).toNat = lv c / 2 ^ i % 2:=by
 unfold bitU shr8
 have h1:(UInt8.ofNat ((c.getD (i / 8) 0).toNat >>> (i % 8))).toNat = (c.getD (i / 8) 0).toNat / 2 ^ (i % 8):=by
  have:=(c.getD (i / 8) 0).toNat_lt
  have:=Nat.div_le_self (c.getD (i / 8) 0).toNat (2 ^ (i % 8))
  rw [UInt8.toNat_ofNat',Nat.shiftRight_eq_div_pow,Nat.mod_eq_of_lt (by omega)]
 rw [UInt8.toNat_and,h1,show (UInt8.ofNat 1).toNat = 2 ^ 1 - 1 from rfl,Nat.and_two_pow_sub_one_eq_mod,← lv_at]
 have e:(2:Nat) ^ i = 256 ^ (i / 8) * 2 ^ (i % 8):=by
  rw [show (256:Nat) = 2 ^ 8 from rfl,← Nat.pow_mul,← Nat.pow_add]
  congr 1;omega
 rw [e,← Nat.div_div_eq_div_mul]
 generalize lv c / 256 ^ (i / 8) = w
 have hm:i % 8 < 8:=Nat.mod_lt _ (by omega)
 generalize i % 8 = m at hm
 have:m = 0 ∨ m = 1 ∨ m = 2 ∨ m = 3 ∨ m = 4 ∨ m = 5 ∨ m = 6 ∨ m = 7:=by omega
 rcases this with rfl | rfl | rfl | rfl | rfl | rfl | rfl | rfl <;> (simp only [Nat.reducePow];omega)
def LL.turn (s:LL) (l b:UInt8):LL:=if b = l then s else s.swap
theorem LL.turn_B {s:LL} (h:s.B) (l b:UInt8):(s.turn l b).B:=by
 unfold LL.turn
 split
 ·exact h
 ·exact ⟨h.2.2.1,h.2.2.2,h.1,h.2.1⟩
theorem LL.turn_f (s:LL) (l b:UInt8):(s.turn l b).f = s.f.turn l.toNat b.toNat:=by
 unfold LL.turn LS.turn
 by_cases h:b = l
 ·rw [if_pos h,if_pos (by rw [h])]
 ·rw [if_neg h,if_neg (fun e=>h (UInt8.toNat_inj.1 e))];rfl
def lad0L (u:List UInt64):LL:=⟨ofL (UInt8.ofNat 1 :: List.replicate 31 0),List.replicate 5 0,u,ofL (UInt8.ofNat 1 :: List.replicate 31 0)⟩
def ladL (u:List UInt64) (c:List UInt8):Nat→LL × UInt8
 | 0=>(lad0L u,UInt8.ofNat 0)
 | k + 1=>(stpL u ((ladL u c k).1.turn (ladL u c k).2 (bitU c (254 - k))),bitU c (254 - k))
theorem one_lb:Lb (ofL (UInt8.ofNat 1 :: List.replicate 31 0)):=(ofL_val _).2
theorem one_fv:fv (ofL (UInt8.ofNat 1 :: List.replicate 31 0)) = 1:=by decide +kernel
theorem zero_lb:Lb (List.replicate 5 (0:UInt64)):=⟨rfl,by decide,by decide,by decide,by decide,by decide⟩
theorem zero_fv:fv (List.replicate 5 (0:UInt64)) = 0:=by decide +kernel
theorem ladL_B {u:List UInt64} (hu:Lb u) (c:List UInt8):∀ k,(ladL u c k).1.B
 | 0=>⟨one_lb,zero_lb,hu,one_lb⟩
 | _ + 1=>stpL_B _ _
theorem ladL_f {u:List UInt64} (hu:Lb u) (c:List UInt8):∀ k,(ladL u c k).1.f = (ladS (fv u) (lv c) k).1∧(ladL u c k).2.toNat = (ladS (fv u) (lv c) k).2
 | 0=>⟨by show LL.f (lad0L u) = ⟨1,0,fv u,1⟩;unfold lad0L LL.f;rw [one_fv,zero_fv],rfl⟩
 | k + 1=>by
  obtain ⟨h1,h2⟩:=ladL_f hu c k
  refine ⟨?_,bitU_val c _⟩
  show (stpL u ((ladL u c k).1.turn (ladL u c k).2 (bitU c (254 - k)))).f = stepF (fv u) _
  rw [stpL_f hu (LL.turn_B (ladL_B hu c k) _ _),LL.turn_f,h1,h2,bitU_val]
def ladB (c u:List UInt8):List UInt8:=leB (ladF (ofF u) (lv c))
theorem ladL_end {c u:List UInt8} {s:LL} {l:UInt8} (h:ladL (ofL u) c 255 = (s,l)) :
  (l = UInt8.ofNat 1→bytL (mulL s.bx (invL s.bz)) = ladB c u)∧(l ≠ UInt8.ofNat 1→bytL (mulL s.ax (invL s.az)) = ladB c u):=by
 have hb:=ladL_B (ofL_val u).2 c 255
 obtain ⟨h1,h2⟩:=ladL_f (ofL_val u).2 c 255
 rw [h] at hb h1 h2
 obtain ⟨b1,b2,b3,b4⟩:=hb
 have h1:s.f = _:=h1
 have h2:l.toNat = _:=h2
 rw [ofL_fv] at h1 h2
 refine ⟨fun e=>?_,fun e=>?_⟩
 ·rw [bytL_eq,mulL_fv b3 (invL_lb _),invL_fv b4]
  unfold ladB ladF
  rw [← h2,← h1,e,if_pos (show (UInt8.ofNat 1).toNat = 1 from rfl)]
  rfl
 ·rw [bytL_eq,mulL_fv b1 (invL_lb _),invL_fv b2]
  unfold ladB ladF
  rw [← h2,← h1,if_neg (show ¬ l.toNat = 1 from fun e2=>e (UInt8.toNat_inj.1 e2))]
  rfl
def clB (b:List UInt8):List UInt8:=(b.set 0 (b.getD 0 0 &&& UInt8.ofNat 248)).set 31 (((b.set 0 (b.getD 0 0 &&& UInt8.ofNat 248)).getD 31 0 &&& UInt8.ofNat 127) ||| UInt8.ofNat 64)
theorem clB_length (b:List UInt8):(clB b).length = b.length:=by unfold clB;rw [List.length_set,List.length_set]
theorem and248:∀ x:UInt8,(x &&& UInt8.ofNat 248).toNat % 2 = 0:=by
 intro x
 have:∀ y:Fin 256,(UInt8.ofNat y.val &&& UInt8.ofNat 248).toNat % 2 = 0:=by decide +kernel
 have h:=this ⟨x.toNat,x.toNat_lt⟩
 rw [UInt8.ofNat_toNat] at h;exact h
theorem and127:∀ x:UInt8,((x &&& UInt8.ofNat 127) ||| UInt8.ofNat 64).toNat < 128:=by
 intro x
 have:∀ y:Fin 256,((UInt8.ofNat y.val &&& UInt8.ofNat 127) ||| UInt8.ofNat 64).toNat < 128:=by decide +kernel
 have h:=this ⟨x.toNat,x.toNat_lt⟩
 rw [UInt8.ofNat_toNat] at h;exact h
theorem clB_num {b:List UInt8} (h:b.length = 32):lv (clB b) < 2 ^ 255∧lv (clB b) % 2 = 0:=by
 have hl:=clB_length b
 rw [h] at hl
 have g0:(clB b).getD 0 0 = b.getD 0 0 &&& UInt8.ofNat 248:=by
  unfold clB
  rw [List.getD_eq_getElem?_getD,List.getElem?_set_ne (by omega),List.getElem?_set_self (by omega)];rfl
 have g31:(clB b).getD 31 0 = ((b.set 0 (b.getD 0 0 &&& UInt8.ofNat 248)).getD 31 0 &&& UInt8.ofNat 127) ||| UInt8.ofNat 64:=by
  unfold clB
  rw [List.getD_eq_getElem?_getD,List.getElem?_set_self (by rw [List.length_set];omega)];rfl
 have e0:=lv_at (clB b) 0
 have e31:=lv_at (clB b) 31
 have hlt:=lv_lt (clB b)
 rw [hl] at hlt
 rw [g0,Nat.pow_zero,Nat.div_one] at e0
 rw [g31] at e31
 have k0:=and248 (b.getD 0 0)
 have k31:=and127 ((b.set 0 (b.getD 0 0 &&& UInt8.ofNat 248)).getD 31 0)
 rw [← e0] at k0
 rw [← e31] at k31
 generalize lv (clB b) = n at *
 clear g0 g31 e0 e31 hl
 refine ⟨?_,by omega⟩
 have hlt:n < 115792089237316195423570985008687907853269984665640564039457584007913129639936:=hlt
 have k31:n / 452312848583266388373324160190187140051835877600158453279131187530910662656 % 256 < 128:=k31
 show n < 57896044618658097711785492504343953926634992332820282019728792003956564819968
 omega
theorem ladB_agree {a b:List UInt8} (ha:a.length = 32) (hb:b.length = 32) :
  ladB (clB a) (ladB (clB b) (UInt8.ofNat 9 :: List.replicate 31 0)) = ladB (clB b) (ladB (clB a) (UInt8.ofNat 9 :: List.replicate 31 0)):=by
 obtain ⟨a1,a2⟩:=clB_num ha
 obtain ⟨b1,b2⟩:=clB_num hb
 have h9:ofF (UInt8.ofNat 9 :: List.replicate 31 0) = 9:=by decide +kernel
 unfold ladB
 rw [ofF_leB,ofF_leB,h9,lad_agree a1 b1 a2 b2]
theorem ladB_length (c u:List UInt8):(ladB c u).length = 32:=leB_length _
end Go.Cu
namespace Go.Proofs.Ytimbdhpchlakfaa
open Go Go.Sx Go.Cu
set_option maxRecDepth 100000 in
theorem fn46 (l:List UInt64) (hl:l.length = 5):Sx.Fn Γ.P 46 [.agg [(5,.a64 l)]] [] (fun v _=>v = .agg [(5,.a64 (carL l))]):=by
 refine fn_of (Γ:=Γ) (fn:=Try.f46) rfl rfl rfl rfl ?_
 repeat (refine sd ?_)
 refine Ret.intro (.agg [(5,.a64 (carL l))]) [] [] rfl ?_ rfl rfl ?_ rfl ?_ rfl
 ·exact fc
 ·exact fc
 ·exact fc
set_option maxRecDepth 100000 in
theorem fnM64 (x y:UInt64):Sx.Fn Γ.P 58 [.u64 x,.u64 y] [] (fun v _=>v = .tup [.u64 (Cu.muH x y),.u64 (x * y)]):=by
 refine fn_of (Γ:=Γ) (fn:=Try.f58) rfl rfl rfl rfl ?_
 repeat (refine sd ?_)
 refine Ret.intro (.tup [.u64 (Cu.muH x y),.u64 (x * y)]) [] [] rfl trivial rfl rfl ?_ rfl trivial rfl
 exact fc
theorem addC0_le (x y:UInt64):(addC x y (UInt64.ofNat 0)).toNat ≤ 1:=by
 have:=x.toNat_lt
 have:=y.toNat_lt
 unfold addC
 rw [UInt64.toNat_ofNat',show (UInt64.ofNat 0).toNat = 0 from rfl]
 omega
set_option maxRecDepth 100000 in
theorem fn47 (w:W2) (x y:UInt64):Sx.Fn Γ.P 47 [.agg [(1,.u64 w.1),(1,.u64 w.2)],.u64 x,.u64 y] [] (fun v _=>v = .agg [(1,.u64 (moreW w x y).1),(1,.u64 (moreW w x y).2)]):=by
 have hM:=fnM64 x y
 have z0:(UInt64.ofNat 0).toNat ≤ 1:=by decide
 have z1:=addC0_le w.2 (x * y)
 refine fn_of (Γ:=Γ) (fn:=Try.f47) rfl rfl rfl rfl ?_
 repeat (refine sd ?_)
 refine Call.pure hM rfl ?_ ?_
 ·exact fc
 intro v hv
 subst hv
 repeat (refine sd ?_)
 refine Ret.intro (.agg [(1,.u64 (moreW w x y).1),(1,.u64 (moreW w x y).2)]) [] [] rfl ?_ rfl rfl ?_ rfl ?_ rfl
 ·exact fc
 ·repeat' (first | (show AllP _;first | exact trivial | refine AllP.app ?_ ?_ | refine AllP.appd ?_ ?_ | refine AllP.cons ?_ ?_) | exact fd | fail)
  all_goals first | exact (moreW_1 _ _ _).symm | exact (moreW_2 _ _ _).symm | exact moreW_1 _ _ _ | exact moreW_2 _ _ _ | trace_state
 ·exact fc
set_option maxRecDepth 100000 in
theorem fn44 (a b:List UInt64) (ha:a.length = 5) (hb:b.length = 5):Sx.Fn Γ.P 44 [.agg [(5,.a64 a)],.agg [(5,.a64 b)]] [] (fun v _=>v = .agg [(5,.a64 (addL a b))]):=by
 have hC:=fn46 (adS a b 5) (adS_length a b 5)
 refine fn_of (Γ:=Γ) (fn:=Try.f44) rfl rfl rfl rfl ?_
 repeat (refine sd ?_)
 refine Loop.intro (σ:=Nat) (fun i=>i ≤ 5) (fun i=>([(2,.ptr 2 0 none),(3,.ptr 3 0 none),(4,.ptr 4 0 none),(5,.ptr 5 0 none),(7,.i .i64 i)],
  [(2,.mem true 0 [(5,.a64 a)]),(3,.mem true 0 [(5,.a64 b)]),(4,.mem true 0 [(5,.a64 (List.replicate 5 0))]),(5,.mem true 0 [(5,.a64 (adS a b i))])])) (fun i=>5 - i) 0 (Nat.zero_le _) ?_ ?_
 ·refine Le.intro [] rfl ?_ rfl ?_ rfl
  ·exact fc
  ·exact fc
 rintro i hi
 have hl:=adS_length a b i
 have hn:adS a b (i + 1) = (adS a b i).set i (a.getD i 0 + b.getD i 0):=rfl
 refine Branch.intro (fun hc=>?_) (fun hc=>?_)
 ·have hc:(i:Int) < 5:=hc
  repeat (refine sd ?_)
  refine Draw.intro [[],[],[],[1,2],[1,2,3],[],[],[5,6],[5,6,7],[1,2,3,4,5,6,7,8],[],[0,1,2,3,4,5,6,7,8,9,10],[0,1,2,3,4,5,6,7,8,9,10,11]] [0,1,2,3,4,5,6,7,8,9,10,11,12] (by kernel_rfl) ?_
  repeat (refine sdn ?_)
  refine ⟨i + 1,by omega,by omega,Le.intro [] rfl ?_ rfl ?_ rfl⟩
  ·exact fcn
  ·exact fcn
 ·obtain rfl:i = 5:=by have hc:¬ (i:Int) < 5:=hc;omega
  repeat (refine sd ?_)
  refine Call.pure hC rfl ?_ ?_
  ·exact fc
  intro v hv
  subst hv
  repeat (refine sd ?_)
  refine Ret.intro (.agg [(5,.a64 (addL a b))]) [] [] rfl ?_ rfl rfl ?_ rfl ?_ rfl
  ·exact fc
  ·exact fc
  ·exact fc
set_option maxRecDepth 100000 in
theorem fn45 (a b:List UInt64) (ha:a.length = 5) (hb:b.length = 5):Sx.Fn Γ.P 45 [.agg [(5,.a64 a)],.agg [(5,.a64 b)]] [] (fun v _=>v = .agg [(5,.a64 (subL a b))]):=by
 have hC:=fn46 (sbS a b 5) (sbS_length a b 5)
 refine fn_of (Γ:=Γ) (fn:=Try.f45) rfl rfl rfl rfl ?_
 repeat (refine sd ?_)
 refine Loop.intro (σ:=Nat) (fun i=>i ≤ 5) (fun i=>([(2,.ptr 2 0 none),(3,.ptr 3 0 none),(4,.ptr 4 0 none),(5,.ptr 5 0 none),(9,.i .i64 i)],
  [(2,.mem true 0 [(5,.a64 a)]),(3,.mem true 0 [(5,.a64 b)]),(4,.mem true 0 [(5,.a64 (List.replicate 5 0))]),(5,.mem true 0 [(5,.a64 (sbS a b i))])])) (fun i=>5 - i) 0 (Nat.zero_le _) ?_ ?_
 ·refine Le.intro [] rfl ?_ rfl ?_ rfl
  ·exact fc
  ·exact fc
 rintro i hi
 have hl:=sbS_length a b i
 have hn:sbS a b (i + 1) = (sbS a b i).set i ((sbS a b i).getD i 0 + (a.getD i 0 - b.getD i 0)):=rfl
 refine Branch.intro (fun hc=>?_) (fun hc=>?_)
 ·have hc:(i:Int) < 5:=hc
  repeat (refine sd ?_)
  refine Draw.intro [[],[],[0,1],[0,1,2],[],[],[4,5],[4,5,6],[],[],[8,9],[8,9,10],[4,5,6,7,8,9,10,11],[0,1,2,3,4,5,6,7,8,9,10,11,12],[],[0,1,2,3,4,5,6,7,8,9,10,11,12,13,14],[0,1,2,3,4,5,6,7,8,9,10,11,12,13,14,15]] [0,1,2,3,4,5,6,7,8,9,10,11,12,13,14,15,16] (by kernel_rfl) ?_
  repeat (refine sdn ?_)
  refine ⟨i + 1,by omega,by omega,Le.intro [] rfl ?_ rfl ?_ rfl⟩
  ·exact fcn
  ·exact fcn
 ·obtain rfl:i = 5:=by have hc:¬ (i:Int) < 5:=hc;omega
  repeat (refine sd ?_)
  refine Call.pure hC rfl ?_ ?_
  ·exact fc
  intro v hv
  subst hv
  repeat (refine sd ?_)
  refine Ret.intro (.agg [(5,.a64 (subL a b))]) [] [] rfl ?_ rfl rfl ?_ rfl ?_ rfl
  ·exact fc
  ·exact fc
  ·exact fc
end Go.Proofs.Ytimbdhpchlakfaa
