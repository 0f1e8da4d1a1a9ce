/- What the functions of the program compute. No condition. -/
import Derived.Test.YtfnmgbillkiabaaGreatHwZd1ToRb5
import Derived.Test.YtfnmgbillkiabaaGreatHwRb8ToRb8
import Derived.Test.YtfnmgbillkiabaaGreatHx7
set_option linter.unusedSimpArgs false
set_option linter.unusedVariables false
namespace Go.Proofs.YtfnmgbillkiabaaGreat
open Go Go.Sx
structure Opr where
 e:UInt8
 o:Bool
 w:Int
 t:List UInt8
 a:Int
 y:UInt8
def op0:Opr:=⟨0,false,0,[],0,0⟩
def opF (l:List Opr) (q:Nat):List (Nat × SV):=opL (l.getD q op0).e ((l.getD q op0).o = true) (l.getD q op0).w (l.getD q op0).t (l.getD q op0).t.length (l.getD q op0).a (l.getD q op0).y
structure Lt where
 f:Int
 h:Hd
 b:List UInt8
 t:List UInt8
def lt0:Lt:=⟨0,hd0,[],[]⟩
def ltR (s:Lt):List (Nat × SV):=ltL s.f s.h s.b s.b.length s.t s.t.length
def ltF (S:List Lt) (q:Nat):List (Nat × SV):=ltR (S.getD q lt0)
structure Lt.OK (s:Lt):Prop where
 h:s.h.OK
 b0:32 <= s.b.length
 b1:s.b.length <= 1056
theorem ltF_lt {S:List Lt} {x:Lt} {q:Nat} (h:q < S.length):ltF (S ++ [x]) q = ltF S q:=by
 unfold ltF
 rw [List.getD_eq_getElem?_getD,List.getD_eq_getElem?_getD,List.getElem?_append_left h]
theorem ltF_at (S:List Lt) (x:Lt):ltF (S ++ [x]) S.length = ltR x:=by
 unfold ltF
 rw [List.getD_eq_getElem?_getD,List.getElem?_append_right (Nat.le_refl _),Nat.sub_self]
 rfl
theorem appF_ltr {A:List Lt} {x:Lt} {k:Nat} {G:Nat->List (Nat × SV)} (hk:A.length = k) (hG:G 0 = ltR x):∀ q,q < k + 1->ltF (A ++ [x]) q = appF k (ltF A) G q:=by
 subst hk
 intro q hq
 rcases Nat.lt_or_ge q A.length with h | h
 ·rw [appF_lt h,ltF_lt h]
 ·obtain rfl:q = A.length:=by omega
  rw [appF_ge h,ltF_at,Nat.sub_self,hG]
structure En where
 X:Se
 l:List Kp
 N:Nat
 m:Nat
 r:List Kp
 R:Nat
 q:Nat
def En.pL (e:En):List (Nat × SV):=seL e.X (.isl 0 e.m 65 [(e.N * 65,.arr e.N 65 (kpF e.l))])
def En.rL (e:En):List (Nat × SV):=seL e.X (.isl 0 e.q 65 [(e.R * 65,.arr e.R 65 (kpF e.r))])
structure En.OK (e:En) (B:Nat):Prop where
 x:e.X.OK
 l:e.l.length = e.N
 m:e.m <= e.N
 nb:e.N <= B
 lo:∀ k ∈ e.l,KpOK k
 lk:e.X.kp = e.l.take e.m
 r:e.r.length = e.R
 q:e.q <= e.R
 nc:e.R <= B
 ro:∀ k ∈ e.r,KpOK k
 rk:e.X.kp = e.r.take e.q
theorem En.OK.mono {e:En} {B C:Nat} (h:e.OK B) (k:B <= C):e.OK C:=⟨h.x,h.l,h.m,Nat.le_trans h.nb k,h.lo,h.lk,h.r,h.q,Nat.le_trans h.nc k,h.ro,h.rk⟩
structure Pl where
 T:List Te
 n:Nat
 c:Nat
 d:Nat
 e0:En
 e1:En
 S:List Lt
 ns:Nat
 cs:Nat
structure PlI (i:Nat) (s:Pl):Prop where
 T:s.T.length = s.n
 c:s.n <= s.c
 d:s.n <= s.d
 b:s.n <= 20 + 110 * i
 v:∀ y ∈ s.T,Valid y.1 y.2
 e0:s.e0.OK (60 * i + 60)
 e1:s.e1.OK (60 * i + 60)
 S:s.S.length = s.ns
 cs:s.ns <= s.cs
 ns:s.ns <= i
 so:∀ x ∈ s.S,x.OK
def plT (ops:List Opr) (N i:Nat) (s:Pl):Tm:=[(0,.isl 0 N 6 [(N * 6,.arr N 6 (opF ops))]),(3,.ptr 203 0 none),(4,.ptr 204 0 none),(5,.ptr 205 0 none),(6,.ptr 206 0 none),(7,.sl 207 0 0 s.ns s.cs),(8,.i .i64 ((i:Nat):Int))]
def plM (s:Pl):Mm:=[(203,.mem true 0 [(1,.ptr 1000 0 none)]),(204,.mem true 0 [(1,.ptr 1100 0 none)]),(205,.mem true 0 (s.e0.pL ++ s.e1.pL)),(206,.mem true 0 (s.e0.rL ++ s.e1.rL)),(207,.mem true (zmE (s.cs - s.ns) 167) [(s.ns * 167,.arr s.ns 167 (ltF s.S))]),(1000,.mem true 0 [(1,.sl 221 0 0 s.n s.c),(1,.mp 1002)]),(221,.mem true (zmE (s.c - s.n) 3) [(s.n * 3,.arr s.n 3 (ttF s.T))]),(1002,.map (.si (mpL s.T))),(1100,.mem true 0 [(1,.sl 222 0 0 s.n s.d)]),(222,.mem true (zmE (s.d - s.n) 2) [(s.n * 2,.arr s.n 2 (rtF s.T))])]
theorem fnBytesP (x y:List UInt8) (n m:Nat) (hx:x.length = n) (hy:y.length = m):Sx.Fn Γ.P 18 [.isl 0 n 1 [(n,.a8 x)],.isl 0 m 1 [(m,.a8 y)]] [] (fun v M=>v = .bool (x = y)/\M = []):=by
 have h:=fn18 x y
 rw [hx,hy,Nat.mul_one,Nat.mul_one] at h
 exact h
theorem sameP_selfP (x:Se):sameP x x:=⟨rfl,rfl,rfl,rfl,rfl,rfl,rfl,rfl,rfl,rfl,rfl,rfl,rfl,rfl,rfl,rfl⟩
end Go.Proofs.YtfnmgbillkiabaaGreat
