/- What the functions of the program compute. No condition. -/
import Derived.Test.YtimbdhpchlakfaaHwRa1ToRa1
import Derived.Test.YtimbdhpchlakfaaHwLa2ToLa2
import Derived.Test.YtimbdhpchlakfaaHwRa2ToRa2
import Derived.Test.YtimbdhpchlakfaaHwSs3ToSs6
set_option linter.unusedSimpArgs false
set_option linter.unusedVariables false
namespace Go.Proofs.Ytimbdhpchlakfaa
open Go Go.Sx
theorem putG_inj {n m:Nat} (hn:n < 4294967296) (hm:m < 4294967296) (h:putB n 4 = putB m 4):n = m:=by
 simp only [putB,List.cons.injEq,and_true] at h
 obtain ⟨h3,h2,h1,h0⟩:=h
 have e3:=ofNat8_mod h3
 have e2:=ofNat8_mod h2
 have e1:=ofNat8_mod h1
 have e0:=ofNat8_mod h0
 simp only [Nat.reducePow,Nat.div_one] at e3 e2 e1 e0
 omega
theorem nameG_inj {n m:Nat} (hn:n < 4294967296) (hm:m < 4294967296) (h:nameB n = nameB m):n = m:=by
 rw [nameB_eq,nameB_eq] at h
 have h1:=List.append_cancel_left h
 exact putG_inj hn hm (List.append_cancel_right h1)
theorem kyG_inj {n m:Nat} (hn:n < 4294967296) (hm:m < 4294967296) (h0:n ≠ 0) (h1:m ≠ 0) (h:kyB n = kyB m):n = m:=by
 obtain ⟨n,rfl⟩:∃ k,n = k + 1:=⟨n - 1,by omega⟩
 obtain ⟨m,rfl⟩:∃ k,m = k + 1:=⟨m - 1,by omega⟩
 exact nameG_inj hn hm h
theorem fdG_app {x:Te}:∀ {T r:List Te} {i:Nat},fdT x T = i + 1→fdT x (T ++ r) = i + 1
 | [],_,_,h=>by simp [fdT] at h
 | y :: t,r,i,h=>by
  by_cases hy:y = x
  ·simp only [fdT,if_pos hy,List.cons_append] at h ⊢;exact h
  ·simp only [fdT,if_neg hy,List.cons_append] at h ⊢
   cases hf:fdT x t with
   | zero=>rw [hf] at h;cases h
   | succ j=>rw [hf] at h;rw [fdG_app hf];exact h
theorem fdG_getD {x:Te}:∀ {T:List Te} {i:Nat},fdT x T = i + 1→T.getD i te0 = x
 | [],_,h=>by simp [fdT] at h
 | y :: t,i,h=>by
  by_cases hy:y = x
  ·simp only [fdT,if_pos hy] at h
   obtain rfl:i = 0:=by omega
   exact hy
  ·simp only [fdT,if_neg hy] at h
   cases hf:fdT x t with
   | zero=>rw [hf] at h;cases h
   | succ j=>
    rw [hf] at h
    have h:j + 2 = i + 1:=h
    obtain rfl:i = j + 1:=by omega
    exact (fdG_getD hf:t.getD j te0 = x)
theorem fdG_new (x:Te):∀ {T:List Te},fdT x T = 0→fdT x (T ++ [x]) = T.length + 1
 | [],_=>by simp [fdT]
 | y :: t,h=>by
  by_cases hy:y = x
  ·simp only [fdT,if_pos hy] at h;cases h
  ·simp only [fdT,if_neg hy,List.cons_append] at h ⊢
   cases hf:fdT x t with
   | zero=>rw [fdG_new x hf];rfl
   | succ j=>rw [hf] at h;cases h
def Num (T:List Te) (x:Te) (o:Nat):Prop:=fdT x T = o∧o ≠ 0
def Ext (A B:List Te):Prop:=∀ y o,Num A y o→Num B y o
theorem Ext.refl (A:List Te):Ext A A:=fun _ _ h=>h
theorem Ext.trans {A B C:List Te} (h:Ext A B) (k:Ext B C):Ext A C:=fun y o n=>k y o (h y o n)
theorem mkT_num {T:List Te} {x:Te} (hV:Valid x.1 x.2):Num (mkT T x).1 x (mkT T x).2:=by
 cases hf:fdT x T with
 | zero=>rw [mkT_new hV hf];exact ⟨fdG_new x hf,by simp⟩
 | succ i=>rw [mkT_old hV hf];exact ⟨hf,by simp⟩
theorem Ext.mk (T:List Te) (x:Te):Ext T (mkT T x).1:=by
 rintro y o ⟨h,h0⟩
 obtain ⟨i,rfl⟩:∃ i,o = i + 1:=⟨o - 1,by omega⟩
 by_cases hV:Valid x.1 x.2
 ·cases hf:fdT x T with
  | zero=>rw [mkT_new hV hf];exact ⟨fdG_app h,h0⟩
  | succ j=>rw [mkT_old hV hf];exact ⟨h,h0⟩
 ·rw [mkT_no hV];exact ⟨h,h0⟩
theorem mkT_has {T:List Te} {x:Te} {o:Nat} (hV:Valid x.1 x.2) (h:Num T x o):mkT T x = (T,o):=by
 obtain ⟨h,h0⟩:=h
 obtain ⟨i,rfl⟩:∃ i,o = i + 1:=⟨o - 1,by omega⟩
 exact mkT_old hV h
theorem Num.getD {T:List Te} {x:Te} {o:Nat} (h:Num T x o):T.getD (o - 1) te0 = x∧o ≤ T.length∧1 ≤ o:=by
 obtain ⟨h,h0⟩:=h
 obtain ⟨i,rfl⟩:∃ i,o = i + 1:=⟨o - 1,by omega⟩
 exact ⟨fdG_getD h,by rw [← h];exact fdT_le x T,by omega⟩
theorem Num.det {T:List Te} {x y:Te} {o:Nat} (h:Num T x o) (k:Num T y o):x = y:=by rw [← h.getD.1,← k.getD.1]
theorem Num.one {T:List Te} {x:Te} {o p:Nat} (h:Num T x o) (k:Num T x p):o = p:=by rw [← h.1,← k.1]
theorem v1 {k:Int} (h1:1 ≤ k) (h8:k ≤ 8) {p:List UInt8} (hp:p.length ≤ 4096):Valid k [p]:=⟨joinsA hp,h1,h8⟩
theorem mk1_num (T:List Te) {k:Int} (h1:1 ≤ k) (h8:k ≤ 8) {p:List UInt8} (hp:p.length ≤ 4096):Num (mk1 T k p).1 (k,[p]) (mk1 T k p).2:=by rw [mk1_eq];exact mkT_num (x:=(k,_)) (v1 h1 h8 hp)
theorem mk1_ext (T:List Te) (k:Int) (p:List UInt8):Ext T (mk1 T k p).1:=by rw [mk1_eq];exact Ext.mk _ _
theorem mk1_has {T:List Te} {k:Int} (h1:1 ≤ k) (h8:k ≤ 8) {p:List UInt8} {o:Nat} (hp:p.length ≤ 4096) (h:Num T (k,[p]) o):mk1 T k p = (T,o):=by rw [mk1_eq];exact mkT_has (x:=(k,_)) (v1 h1 h8 hp) h
theorem numP_ky {z N:Nat} (h1:1 ≤ z) (h2:z ≤ N) (h3:N < 4294967296):numP (kyB z) N 0 = z:=by
 obtain ⟨i,rfl⟩:∃ i,z = i + 1:=⟨z - 1,by omega⟩
 exact numP_name h1 h2 h3
end Go.Proofs.Ytimbdhpchlakfaa
namespace Go.Proofs.Ytimbdhpchlakfaa
open Go Go.Sx Go.Cu
set_option maxRecDepth 100000 in
theorem fnFreshR (p:List UInt8) (hp:p.length = 32):Sx.Fn Γ.P 6 [.agg [(1,.nilp)],.a8 p] [] (fun v _=>v = .a8 p):=by
 refine fn_of (Γ:=Γ) (fn:=Try.f6) rfl rfl rfl rfl ?_
 repeat (refine sd ?_)
 repeat (first | (refine Branch.intro (fun _=>?_) (fun hn=>absurd rfl hn)) | (refine ky0 ?_) | (refine kn0 ?_) | (refine sd ?_))
 refine Ret.intro (.a8 p) [] [] rfl ?_ rfl rfl ?_ rfl ?_ rfl
 ·exact fc
 ·exact fc
 ·exact fc
def nineB:List UInt8:=UInt8.ofNat 9 :: List.replicate 31 0
@[irreducible] def pubB (s:List UInt8):List UInt8:=ladB (clB s) nineB
theorem pubB_eq (s:List UInt8):pubB s = ladB (clB s) nineB:=by unfold pubB;rfl
theorem pubB_length (s:List UInt8):(pubB s).length = 32:=by rw [pubB_eq];exact ladB_length _ _
@[irreducible] def aggB (s u:List UInt8):List UInt8:=ladB (clB s) u
theorem aggB_eq (s u:List UInt8):aggB s u = ladB (clB s) u:=by unfold aggB;rfl
theorem aggB_length (s u:List UInt8):(aggB s u).length = 32:=by rw [aggB_eq];exact ladB_length _ _
theorem aggB_two {a b:List UInt8} (ha:a.length = 32) (hb:b.length = 32):aggB a (pubB b) = aggB b (pubB a):=by
 rw [aggB_eq,aggB_eq,pubB_eq,pubB_eq];exact ladB_agree ha hb
set_option maxRecDepth 100000 in
theorem fnPublicR (p:List UInt8) (hp:p.length = 32):Sx.Fn Γ.P 8 [.agg [(1,.nilp)],.a8 p] [] (fun v _=>v = .a8 (pubB p)):=by
 have c:=fn19 p hp
 have l:=pubB_length p
 have e:ladB (clB p) (UInt8.ofNat 9 :: List.replicate 31 0) = pubB p:=(pubB_eq p).symm
 rw [e] at c
 generalize pubB p = R at *
 refine fn_of (Γ:=Γ) (fn:=Try.f8) rfl rfl rfl rfl ?_
 repeat (refine sd ?_)
 repeat (first | (refine Branch.intro (fun _=>?_) (fun hn=>absurd rfl hn)) | (refine ky0 ?_) | (refine kn0 ?_) | (refine sd ?_))
 refine Call.pure c rfl ?_ ?_
 ·exact fc
 intro v hv
 subst hv
 repeat (refine sd ?_)
 refine Ret.intro (.a8 R) [] [] rfl ?_ rfl rfl ?_ rfl ?_ rfl
 ·exact fc
 ·exact fc
 ·exact fc
set_option maxRecDepth 100000 in
theorem fnAgreeR (a u:List UInt8) (ha:a.length = 32) (hu:u.length = 32):Sx.Fn Γ.P 7 [.agg [(1,.nilp)],.a8 a,.a8 u] [] (fun v _=>v = .tup [.a8 (aggB a u),.bool (¬ aggB a u = List.replicate 32 0)]):=by
 have c:=fn16 a u ha hu
 have l:=aggB_length a u
 rw [← aggB_eq] at c
 generalize aggB a u = R at *
 refine fn_of (Γ:=Γ) (fn:=Try.f7) rfl rfl rfl rfl ?_
 repeat (refine sd ?_)
 repeat (first | (refine Branch.intro (fun _=>?_) (fun hn=>absurd rfl hn)) | (refine ky0 ?_) | (refine kn0 ?_) | (refine sd ?_))
 refine Call.pure c rfl ?_ ?_
 ·exact fc
 intro v hv
 subst hv
 repeat (refine sd ?_)
 refine Draw.intro [[],[],[],[1,2],[0],[0,1,2,3,4]] [0,1,2,3,4,5] (by kernel_rfl) ?_
 repeat (first | (refine Grow.turn rfl rfl ?_) | (refine sd ?_))
 refine Ret.intro (.tup [.a8 R,.bool (¬ R = List.replicate 32 0)]) [] [] rfl ?_ rfl rfl ?_ rfl ?_ rfl
 ·exact fc
 ·repeat' (first | (show AllP _;first | exact trivial | refine AllP.app ?_ ?_ | refine AllP.appd ?_ ?_ | refine AllP.cons ?_ ?_) | exact fd | fail)
  all_goals exact Iff.rfl
 ·exact fc
theorem bl_asymm:∀ x y:List UInt8,Op.bytesLess x y = true→Op.bytesLess y x = true→False
 | [],[],h,_=>by simp [Op.bytesLess] at h
 | [],_ :: _,_,h=>by simp [Op.bytesLess] at h
 | _ :: _,[],h,_=>by simp [Op.bytesLess] at h
 | a :: x,b :: y,h,k=>by
  rw [Op.bytesLess] at h k
  simp only [Bool.or_eq_true,decide_eq_true_eq,Bool.and_eq_true,beq_iff_eq] at h k
  rcases h with h | ⟨rfl,h⟩
  ·rcases k with k | ⟨rfl,k⟩
   ·exact absurd (UInt8.lt_trans h k) (UInt8.lt_irrefl _)
   ·exact UInt8.lt_irrefl _ h
  ·rcases k with k | ⟨_,k⟩
   ·exact UInt8.lt_irrefl _ k
   ·exact bl_asymm x y h k
theorem bl_total:∀ x y:List UInt8,x ≠ y→Op.bytesLess x y = true ∨ Op.bytesLess y x = true
 | [],[],h=>absurd rfl h
 | [],_ :: _,_=>Or.inl (by simp [Op.bytesLess])
 | _ :: _,[],_=>Or.inr (by simp [Op.bytesLess])
 | a :: x,b :: y,h=>by
  rw [Op.bytesLess,Op.bytesLess]
  simp only [Bool.or_eq_true,decide_eq_true_eq,Bool.and_eq_true,beq_iff_eq]
  by_cases hab:a = b
  ·subst hab
   rcases bl_total x y (fun e=>h (by rw [e])) with k | k
   ·exact Or.inl (Or.inr ⟨rfl,k⟩)
   ·exact Or.inr (Or.inr ⟨rfl,k⟩)
  ·have:a.toNat ≠ b.toNat:=fun e=>hab (UInt8.toNat_inj.1 e)
   rcases Nat.lt_or_gt_of_ne this with k | k
   ·exact Or.inl (Or.inl (UInt8.lt_iff_toNat_lt.2 k))
   ·exact Or.inr (Or.inl (UInt8.lt_iff_toNat_lt.2 k))
def srt (x y:List UInt8):List (List UInt8):=if Op.bytesLess x y = true ∨ x = y then [x,y] else [y,x]
theorem srt_comm (x y:List UInt8):srt x y = srt y x:=by
 unfold srt
 by_cases h:x = y
 ·subst h;rfl
 ·rcases bl_total x y h with k | k
  ·rw [if_pos (Or.inl k),if_neg (fun g=>g.elim (fun g=>bl_asymm _ _ k g) (fun e=>h e.symm))]
  ·rw [if_neg (fun g=>g.elim (fun g=>bl_asymm _ _ k g) h),if_pos (Or.inl k)]
theorem srt_inj {x y z:List UInt8} (h:srt z y = srt x y):z = x:=by
 unfold srt at h
 split at h <;> split at h <;> simp only [List.cons.injEq,and_true] at h
 all_goals first | exact h | exact h.1 | exact h.2 | (rw [h.1,← h.2];done) | (rw [h.2,← h.1];done)
theorem agr_srt {T:List Te} {N o:Nat} {a y:List UInt8} (hT:T.length = N) (hN:N < 4294967296) (hy:y.length = 32) (h:Num T (2,[y]) o):agr T N a (kyB o) = mkT T (3,srt a y):=by
 obtain ⟨h1,h2,h3⟩:=h.getD
 have hq:numP (kyB o) N 0 = (o - 1) + 1:=by rw [numP_ky h3 (by omega) hN];omega
 have hx:(T.getD (o - 1) te0).1 = 2∧(T.getD (o - 1) te0).2.length = 1∧((T.getD (o - 1) te0).2.getD 0 []).length = 32:=by rw [h1];exact ⟨rfl,rfl,hy⟩
 have e0:(T.getD (o - 1) te0).2.getD 0 [] = y:=by rw [h1];rfl
 unfold srt
 by_cases hl:Op.bytesLess a y = true ∨ a = y
 ·rw [agr_le hq hx (by rw [e0];exact hl),e0,if_pos hl,mk2_eq]
 ·rw [agr_gt hq hx (by rw [e0];exact hl),e0,if_neg hl,mk2_eq]
theorem srt_valid {x y:List UInt8} (hx:x.length ≤ 4096) (hy:y.length ≤ 4096):Valid 3 (srt x y):=by
 unfold srt
 split
 ·exact ⟨joinsB hx hy,by decide,by decide⟩
 ·exact ⟨joinsB hy hx,by decide,by decide⟩
end Go.Proofs.Ytimbdhpchlakfaa
