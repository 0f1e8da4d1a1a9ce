/- What the functions of the program compute. No condition. -/
import Derived.Test.YtimbdhpchlakfaaHwCu1ToCu2
set_option linter.unusedSimpArgs false
set_option linter.unusedVariables false
namespace Go.Cu
def On (x y:F):Prop:=y * y - x * x = 1 + dF * (x * x * (y * y))
theorem complete {x1 y1 x2 y2 e:F} (h1:On x1 y1) (h2:On x2 y2) (he:e * e = 1):dF * (x1 * x2 * y1 * y2) ≠ e:=by
 intro h
 unfold On at h1 h2
 have e0:e ≠ 0:=by rintro rfl;exact absurd he (by decide)
 have n1:x1 * y1 ≠ 0:=by
  intro h0
  apply e0
  rw [← h];grind -lia -linarith (splits:=0)
 have n2:x2 ≠ 0:=by
  intro h0
  apply e0
  rw [← h,h0];grind -lia -linarith (splits:=0)
 have hi:=i_eq
 have a1:(x1 + iF * e * y1) * (x1 + iF * e * y1) = dF * ((x1 * y1 * (x2 + iF * y2)) * (x1 * y1 * (x2 + iF * y2))):=by grind -lia -linarith (splits:=0)
 have a2:(x1 - iF * e * y1) * (x1 - iF * e * y1) = dF * ((x1 * y1 * (x2 - iF * y2)) * (x1 * y1 * (x2 - iF * y2))):=by grind -lia -linarith (splits:=0)
 have b1:=(f_zero (nonsq a1)).resolve_left n1
 have b2:=(f_zero (nonsq a2)).resolve_left n1
 have c:2 * x2 = 0:=by grind -lia -linarith (splits:=0)
 rcases f_zero c with c | c
 ·exact two_ne c
 ·exact n2 c
structure Pt where
 x:F
 y:F
 on:On x y
theorem Pt.ext' {P Q:Pt} (hx:P.x = Q.x) (hy:P.y = Q.y):P = Q:=by
 cases P;cases Q;simp only at hx hy;subst hx;subst hy;rfl
def Pt.ex (P Q:Pt):F:=dF * (P.x * Q.x * P.y * Q.y)
theorem Pt.pos (P Q:Pt):1 + P.ex Q ≠ 0:=by
 intro h
 refine complete P.on Q.on (e:=0 - 1) (by decide) ?_
 unfold Pt.ex at h
 grind -lia -linarith (splits:=0)
theorem Pt.neg' (P Q:Pt):1 - P.ex Q ≠ 0:=by
 intro h
 refine complete P.on Q.on (e:=1) (by decide) ?_
 unfold Pt.ex at h
 grind -lia -linarith (splits:=0)
theorem add_on {x1 y1 x2 y2 x y:F} (h1:On x1 y1) (h2:On x2 y2) (hx:x * (1 + dF * (x1 * x2 * y1 * y2)) = x1 * y2 + x2 * y1) (hy:y * (1 - dF * (x1 * x2 * y1 * y2)) = y1 * y2 + x1 * x2)
  (n1:1 + dF * (x1 * x2 * y1 * y2) ≠ 0) (n2:1 - dF * (x1 * x2 * y1 * y2) ≠ 0):On x y:=by
 unfold On at *
 generalize hB:1 + dF * (x1 * x2 * y1 * y2) = B at *
 generalize hD:1 - dF * (x1 * x2 * y1 * y2) = D at *
 have hBD:B * B * (D * D) ≠ 0:=f_ne (f_ne n1 n1) (f_ne n2 n2)
 refine f_can hBD ?_
 have e1:(y * y - x * x) * (B * B * (D * D)) = (y * D) * (y * D) * (B * B) - (x * B) * (x * B) * (D * D):=by clear h1 h2 hx hy hB hD;grind -lia -linarith (splits:=0)
 have e2:(1 + dF * (x * x * (y * y))) * (B * B * (D * D)) = B * B * (D * D) + dF * ((x * B) * (x * B) * ((y * D) * (y * D))):=by clear h1 h2 hx hy hB hD;grind -lia -linarith (splits:=0)
 rw [e1,e2,hx,hy]
 clear e1 e2 hx hy hBD n1 n2
 subst hB hD
 grind -lia -linarith (splits:=0)
def Pt.add (P Q:Pt):Pt where
 x:=(P.x * Q.y + Q.x * P.y) * inv (1 + P.ex Q)
 y:=(P.y * Q.y + P.x * Q.x) * inv (1 - P.ex Q)
 on:=by
  have h1:=inv_mul (P.pos Q)
  have h2:=inv_mul (P.neg' Q)
  refine add_on P.on Q.on ?_ ?_ (P.pos Q) (P.neg' Q)
  ·unfold Pt.ex at *;grind -lia -linarith (splits:=0)
  ·unfold Pt.ex at *;grind -lia -linarith (splits:=0)
theorem Pt.add_x (P Q:Pt):(P.add Q).x * (1 + P.ex Q) = P.x * Q.y + Q.x * P.y:=by
 have h1:=inv_mul (P.pos Q)
 show (P.x * Q.y + Q.x * P.y) * inv (1 + P.ex Q) * (1 + P.ex Q) = _
 grind -lia -linarith (splits:=0)
theorem Pt.add_y (P Q:Pt):(P.add Q).y * (1 - P.ex Q) = P.y * Q.y + P.x * Q.x:=by
 have h1:=inv_mul (P.neg' Q)
 show (P.y * Q.y + P.x * Q.x) * inv (1 - P.ex Q) * (1 - P.ex Q) = _
 grind -lia -linarith (splits:=0)
theorem Pt.add_eq {P Q R:Pt} (hx:R.x * (1 + P.ex Q) = P.x * Q.y + Q.x * P.y) (hy:R.y * (1 - P.ex Q) = P.y * Q.y + P.x * Q.x):P.add Q = R:=
 Pt.ext' (f_can (P.pos Q) (by rw [Pt.add_x,hx])) (f_can (P.neg' Q) (by rw [Pt.add_y,hy]))
def Pt.O:Pt:=⟨0,1,by unfold On;decide +kernel⟩
def Pt.ng (P:Pt):Pt:=⟨0 - P.x,P.y,by have:=P.on;unfold On at *;grind -lia -linarith (splits:=0)⟩
theorem Pt.add_comm (P Q:Pt):P.add Q = Q.add P:=by
 have h1:=Q.add_x P
 have h2:=Q.add_y P
 refine Pt.add_eq ?_ ?_
 ·unfold Pt.ex at *;grind -lia -linarith (splits:=0)
 ·unfold Pt.ex at *;grind -lia -linarith (splits:=0)
theorem Pt.add_O (P:Pt):P.add .O = P:=by
 refine Pt.add_eq ?_ ?_ <;> (unfold Pt.ex;show _ = _;simp only [Pt.O];grind -lia -linarith (splits:=0))
theorem Pt.O_add (P:Pt):Pt.O.add P = P:=by rw [Pt.add_comm,Pt.add_O]
theorem Pt.add_ng (P:Pt):P.add P.ng = .O:=by
 have h:=P.on
 unfold On at h
 refine Pt.add_eq ?_ ?_ <;> (unfold Pt.ex;simp only [Pt.O,Pt.ng];grind -lia -linarith (splits:=0))
theorem assocX {d x1 y1 x2 y2 x3 y3:F} {A B C D A' B' C' D':F} (hA:A = x1*y2+x2*y1) (hB:B = 1 + d*(x1*x2*y1*y2)) (hC:C = y1*y2+x1*x2) (hD:D = 1 - d*(x1*x2*y1*y2))
  (hA':A' = x2*y3+x3*y2) (hB':B' = 1 + d*(x2*x3*y2*y3)) (hC':C' = y2*y3+x2*x3) (hD':D' = 1 - d*(x2*x3*y2*y3))
  (e1:y1*y1 - x1*x1 = 1 + d*(x1*x1*(y1*y1))) (e2:y2*y2 - x2*x2 = 1 + d*(x2*x2*(y2*y2))) (e3:y3*y3 - x3*x3 = 1 + d*(x3*x3*(y3*y3))) :
  (A*D*y3 + x3*C*B)*(B'*D' + d*x1*y1*A'*C') = (x1*C'*B'+A'*y1*D')*(B*D+d*A*C*x3*y3):=by subst_vars;grind -lia -linarith (splits:=0)
theorem assocY {d x1 y1 x2 y2 x3 y3:F} {A B C D A' B' C' D':F} (hA:A = x1*y2+x2*y1) (hB:B = 1 + d*(x1*x2*y1*y2)) (hC:C = y1*y2+x1*x2) (hD:D = 1 - d*(x1*x2*y1*y2))
  (hA':A' = x2*y3+x3*y2) (hB':B' = 1 + d*(x2*x3*y2*y3)) (hC':C' = y2*y3+x2*x3) (hD':D' = 1 - d*(x2*x3*y2*y3))
  (e1:y1*y1 - x1*x1 = 1 + d*(x1*x1*(y1*y1))) (e2:y2*y2 - x2*x2 = 1 + d*(x2*x2*(y2*y2))) (e3:y3*y3 - x3*x3 = 1 + d*(x3*x3*(y3*y3))) :
  (C*B*y3 + A*D*x3)*(B'*D' - d*x1*y1*A'*C') = (y1*C'*B'+x1*A'*D')*(B*D-d*A*C*x3*y3):=by subst_vars;grind -lia -linarith (splits:=0)
theorem frac {u v u' v' X Y:F} (hv:v ≠ 0) (hv':v' ≠ 0) (h:X * v = u) (h':Y * v' = u') (hc:u * v' = u' * v):X = Y:=by
 refine f_can (f_ne hv hv') ?_
 have e1:X * (v * v') = X * v * v':=by grind -lia -linarith (splits:=0)
 have e2:Y * (v * v') = Y * v' * v:=by grind -lia -linarith (splits:=0)
 rw [e1,e2,h,h',hc]
theorem l3 (a b c:F):a * (b * c) = b * (a * c):=by grind -lia -linarith (splits:=0)
theorem l4 (s t b d x y:F):b * d * (s * y + x * t) = s * b * d * y + x * (t * d) * b:=by grind -lia -linarith (splits:=0)
theorem l5 (s t b d x y:F):b * d * (x * t + s * y) = x * (t * d) * b + s * b * y * d:=by grind -lia -linarith (splits:=0)
theorem l6 (s t b d x y:F):b * d * (t * y + s * x) = t * d * b * y + s * b * d * x:=by grind -lia -linarith (splits:=0)
theorem l7 (s t b d x y:F):b * d * (y * t + x * s) = y * (t * d) * b + x * (s * b) * d:=by grind -lia -linarith (splits:=0)
theorem Pt.add_assoc (P Q R:Pt):(P.add Q).add R = P.add (Q.add R):=by
 have a1:=P.add_x Q
 have a2:=P.add_y Q
 have b1:=Q.add_x R
 have b2:=Q.add_y R
 have c1:=(P.add Q).add_x R
 have c2:=(P.add Q).add_y R
 have d1:=P.add_x (Q.add R)
 have d2:=P.add_y (Q.add R)
 have p1:=P.pos Q
 have p2:=P.neg' Q
 have q1:=Q.pos R
 have q2:=Q.neg' R
 have r1:=(P.add Q).pos R
 have r2:=(P.add Q).neg' R
 have s1:=P.pos (Q.add R)
 have s2:=P.neg' (Q.add R)
 have o1:=P.on
 have o2:=Q.on
 have o3:=R.on
 generalize ((P.add Q).add R) = L at *
 generalize (P.add (Q.add R)) = M at *
 generalize (P.add Q) = S at *
 generalize (Q.add R) = T at *
 unfold Pt.ex On at *
 generalize hB:1 + dF * (P.x * Q.x * P.y * Q.y) = B at *
 generalize hD:1 - dF * (P.x * Q.x * P.y * Q.y) = D at *
 generalize hB':1 + dF * (Q.x * R.x * Q.y * R.y) = B' at *
 generalize hD':1 - dF * (Q.x * R.x * Q.y * R.y) = D' at *
 generalize hA:P.x * Q.y + Q.x * P.y = A at *
 generalize hC:P.y * Q.y + P.x * Q.x = C at *
 generalize hA':Q.x * R.y + R.x * Q.y = A' at *
 generalize hC':Q.y * R.y + Q.x * R.x = C' at *
 have kx:=assocX hA.symm hB.symm hC.symm hD.symm hA'.symm hB'.symm hC'.symm hD'.symm o1 o2 o3
 have ky:=assocY hA.symm hB.symm hC.symm hD.symm hA'.symm hB'.symm hC'.symm hD'.symm o1 o2 o3
 clear hA hB hC hD hA' hB' hC' hD' o1 o2 o3
 have v1:B * D * (1 + dF * (S.x * R.x * S.y * R.y)) = B * D + dF * A * C * R.x * R.y:=by rw [← a1,← a2];clear kx ky c1 c2 d1 d2 a1 a2 b1 b2;grind -lia -linarith (splits:=0)
 have v2:B * D * (1 - dF * (S.x * R.x * S.y * R.y)) = B * D - dF * A * C * R.x * R.y:=by rw [← a1,← a2];clear kx ky c1 c2 d1 d2 a1 a2 b1 b2;grind -lia -linarith (splits:=0)
 have w1:B' * D' * (1 + dF * (P.x * T.x * P.y * T.y)) = B' * D' + dF * P.x * P.y * A' * C':=by rw [← b1,← b2];clear kx ky c1 c2 d1 d2 a1 a2 b1 b2;grind -lia -linarith (splits:=0)
 have w2:B' * D' * (1 - dF * (P.x * T.x * P.y * T.y)) = B' * D' - dF * P.x * P.y * A' * C':=by rw [← b1,← b2];clear kx ky c1 c2 d1 d2 a1 a2 b1 b2;grind -lia -linarith (splits:=0)
 refine Pt.ext' (frac (v:=B * D + dF * A * C * R.x * R.y) (v':=B' * D' + dF * P.x * P.y * A' * C') ?_ ?_ ?_ ?_ kx) (frac (v:=B * D - dF * A * C * R.x * R.y) (v':=B' * D' - dF * P.x * P.y * A' * C') ?_ ?_ ?_ ?_ ky)
 ·rw [← v1];exact f_ne (f_ne p1 p2) r1
 ·rw [← w1];exact f_ne (f_ne q1 q2) s1
 ·rw [← v1,← a1,← a2]
  rw [l3,c1];exact l4 _ _ _ _ _ _
 ·rw [← w1,← b1,← b2]
  rw [l3,d1];exact l5 _ _ _ _ _ _
 ·rw [← v2];exact f_ne (f_ne p1 p2) r2
 ·rw [← w2];exact f_ne (f_ne q1 q2) s2
 ·rw [← v2,← a1,← a2]
  rw [l3,c2];exact l6 _ _ _ _ _ _
 ·rw [← w2,← b1,← b2]
  rw [l3,d2];exact l7 _ _ _ _ _ _
def Pt.mul (P:Pt):Nat→Pt
 | 0=>.O
 | n + 1=>(P.mul n).add P
theorem Pt.mul_add (P:Pt) (n:Nat):∀ m,P.mul (n + m) = (P.mul n).add (P.mul m)
 | 0=>(Pt.add_O _).symm
 | m + 1=>by show (P.mul (n + m)).add P = (P.mul n).add ((P.mul m).add P);rw [Pt.mul_add P n m,Pt.add_assoc]
theorem Pt.mul_one (P:Pt):P.mul 1 = P:=Pt.O_add P
theorem Pt.mul_mul (P:Pt) (n:Nat):∀ m,P.mul (n * m) = (P.mul n).mul m
 | 0=>rfl
 | m + 1=>by rw [Nat.mul_succ,Pt.mul_add,Pt.mul_mul P n m];rfl
end Go.Cu
namespace Go.Cu
theorem Pt.mul_dbl (P:Pt) (k:Nat):(P.mul k).add (P.mul k) = P.mul (2 * k):=by rw [← Pt.mul_add];congr 1;omega
theorem Pt.ng_add (P Q:Pt):(P.add Q).ng = P.ng.add Q.ng:=by
 refine (Pt.add_eq ?_ ?_).symm
 ·have h:=P.add_x Q
  unfold Pt.ex at *
  simp only [Pt.ng]
  grind -lia -linarith (splits:=0)
 ·have h:=P.add_y Q
  unfold Pt.ex at *
  simp only [Pt.ng]
  grind -lia -linarith (splits:=0)
theorem Pt.dif1 (Q P:Pt):Q.add (Q.add P).ng = P.ng:=by
 rw [Pt.ng_add,← Pt.add_assoc,Pt.add_ng,Pt.O_add]
theorem Pt.dif2 (Q P:Pt):(Q.add P).add Q.ng = P:=by
 rw [Pt.add_comm Q P,Pt.add_assoc,Pt.add_ng,Pt.add_O]
end Go.Cu
namespace Go.Cu
def Lr (X Z:F) (P:Pt):Prop:=∃ l:F,l ≠ 0∧X = l * (1 + P.y)∧Z = l * (1 - P.y)
theorem Lr.of {X Z:F} {P:Pt} (h:X * (1 - P.y) = Z * (1 + P.y)) (hn:¬ (X = 0∧Z = 0)):Lr X Z P:=by
 have h2:(2:F) * inv 2 = 1:=mul_inv two_ne
 generalize inv (2:F) = v at h2
 refine ⟨(X + Z) * v,?_,?_,?_⟩
 ·intro h0
  have hs:X + Z = 0:=by
   rcases f_zero h0 with h1 | h1
   ·exact h1
   ·rw [h1] at h2;exact absurd h2 (by decide)
  have hx:2 * X = 0:=by grind -lia -linarith (splits:=0)
  have hx0:=(f_zero hx).resolve_left two_ne
  exact hn ⟨hx0,by rw [hx0] at hs;grind -lia -linarith (splits:=0)⟩
 ·grind -lia -linarith (splits:=0)
 ·grind -lia -linarith (splits:=0)
theorem four_ne:(4:F) ≠ 0:=by decide
theorem on_x2 {P:Pt}:(1 + P.x * P.x) * (121666 - 121665 * (P.y * P.y)) = P.y * P.y:=by
 have h:=P.on
 have hd:=d_eq
 unfold On at h
 grind -lia -linarith (splits:=0)
theorem lr_dbl {X Z:F} {P:Pt} (h:Lr X Z P) {p m pp mm e:F} (hp:p = X + Z) (hm:m = X - Z) (hpp:pp = p * p) (hmm:mm = m * m) (he:e = pp - mm) :
  Lr (pp * mm) (e * (pp + 121665 * e)) (P.add P):=by
 obtain ⟨l,hl,rfl,rfl⟩:=h
 have a2:=P.add_y P
 have n2:=P.neg' P
 have hx:=@on_x2 P
 have on:=P.on
 generalize P.add P = S at *
 unfold Pt.ex On at *
 have e1:pp = 4 * (l * l):=by subst_vars;grind -lia -linarith (splits:=0)
 have e2:mm = 4 * (l * l) * (P.y * P.y):=by subst_vars;grind -lia -linarith (splits:=0)
 have e3:e = 4 * (l * l) * (1 - P.y * P.y):=by rw [he,e1,e2];grind -lia -linarith (splits:=0)
 clear hp hm hpp hmm he
 have e4:e * (pp + 121665 * e) = 16 * (l * l * (l * l)) * ((1 - P.y * P.y) * (121666 - 121665 * (P.y * P.y))):=by rw [e3,e1];grind -lia -linarith (splits:=0)
 have e5:pp * mm = 16 * (l * l * (l * l)) * (P.y * P.y):=by rw [e2,e1];grind -lia -linarith (splits:=0)
 rw [e4,e5]
 have n16:16 * (l * l * (l * l)) ≠ 0:=f_ne (by decide) (f_ne (f_ne hl hl) (f_ne hl hl))
 generalize 16 * (l * l * (l * l)) = k at *
 clear e1 e2 e3 e4 e5
 refine Lr.of ?_ ?_
 ·refine f_can n2 ?_
  have b1:k * (P.y * P.y) * (1 - S.y) * (1 - dF * (P.x * P.x * P.y * P.y)) = k * (P.y * P.y) * ((1 - dF * (P.x * P.x * P.y * P.y)) - (S.y * (1 - dF * (P.x * P.x * P.y * P.y)))):=by clear a2 n2 hx on n16;grind -lia -linarith (splits:=0)
  have b2:k * ((1 - P.y * P.y) * (121666 - 121665 * (P.y * P.y))) * (1 + S.y) * (1 - dF * (P.x * P.x * P.y * P.y)) = k * ((1 - P.y * P.y) * (121666 - 121665 * (P.y * P.y))) * ((1 - dF * (P.x * P.x * P.y * P.y)) + (S.y * (1 - dF * (P.x * P.x * P.y * P.y)))):=by clear a2 n2 hx on n16;grind -lia -linarith (splits:=0)
  rw [b1,b2,a2]
  have c1:1 - dF * (P.x * P.x * P.y * P.y) = 2 - P.y * P.y + P.x * P.x:=by clear hx;grind -lia -linarith (splits:=0)
  rw [c1]
  clear b1 b2 c1 a2 n2 on n16
  grind -lia -linarith (splits:=0)
 ·rintro ⟨h1,h2⟩
  have hy:=(f_zero h1).resolve_left n16
  have h3:=(f_zero h2).resolve_left n16
  rw [hy] at h3
  exact absurd h3 (by decide)
theorem lr_sum {X1 Z1 X2 Z2 u:F} {P Q D:Pt} (h:Lr X1 Z1 P) (h':Lr X2 Z2 Q) (hD:(P.add Q.ng).y = D.y) (hu:u * (1 - D.y) = 1 + D.y) (u0:u ≠ 0)
  {p m da cb s d:F} (hp:p = X1 + Z1) (hm:m = X1 - Z1) (hda:da = (X2 - Z2) * p) (hcb:cb = (X2 + Z2) * m) (hs:s = da + cb) (hd:d = da - cb) :
  Lr (s * s) (u * (d * d)) (P.add Q):=by
 obtain ⟨l,hl,rfl,rfl⟩:=h
 obtain ⟨k,hk,rfl,rfl⟩:=h'
 have a2:=P.add_y Q
 have n2:=P.neg' Q
 have b2:=P.add_y Q.ng
 have m2:=P.neg' Q.ng
 rw [hD] at b2
 have o1:=P.on
 have o2:=Q.on
 generalize P.add Q = S at *
 unfold Pt.ex On at *
 simp only [Pt.ng] at b2 m2
 have e1:s = 4 * (l * k) * (P.y + Q.y):=by subst_vars;clear hD hu u0 a2 n2 b2 m2 o1 o2;grind -lia -linarith (splits:=0)
 have e2:d = 4 * (l * k) * (Q.y - P.y):=by subst_vars;clear hD hu u0 a2 n2 b2 m2 o1 o2;grind -lia -linarith (splits:=0)
 have n4:4 * (l * k) ≠ 0:=f_ne (by decide) (f_ne hl hk)
 rw [e1,e2]
 clear e1 e2 hp hm hda hcb hs hd hD
 generalize 4 * (l * k) = w at *
 have d1:1 - D.y ≠ 0:=by
  intro h0
  rw [h0] at hu
  have e1:1 + D.y = 0:=by rw [← hu];grind -lia -linarith (splits:=0)
  have e2:(2:F) = 0:=by clear a2 b2 hu;grind -lia -linarith (splits:=0)
  exact two_ne e2
 have d2:1 + D.y ≠ 0:=by rw [← hu];exact f_ne u0 d1
 have M2:1 + dF * (P.x * Q.x * P.y * Q.y) ≠ 0:=by
  intro h0;apply m2;rw [← h0];clear a2 n2 b2 m2 o1 o2 hu u0;grind -lia -linarith (splits:=0)
 have B2:D.y * (1 + dF * (P.x * Q.x * P.y * Q.y)) = P.y * Q.y - P.x * Q.x:=by
  clear a2 n2 o1 o2 hu u0;grind -lia -linarith (splits:=0)
 clear b2 m2
 refine Lr.of ?_ ?_
 ·refine f_can (f_ne d1 (f_ne n2 M2)) ?_
  have c1:w * (P.y + Q.y) * (w * (P.y + Q.y)) * (1 - S.y) * ((1 - D.y) * ((1 - dF * (P.x * Q.x * P.y * Q.y)) * (1 + dF * (P.x * Q.x * P.y * Q.y))))
    = w * w * ((P.y + Q.y) * (P.y + Q.y) * (((1 - dF * (P.x * Q.x * P.y * Q.y)) - S.y * (1 - dF * (P.x * Q.x * P.y * Q.y))) * ((1 + dF * (P.x * Q.x * P.y * Q.y)) - D.y * (1 + dF * (P.x * Q.x * P.y * Q.y))))):=by
   clear a2 n2 o1 o2 hu u0 B2 M2;grind -lia -linarith (splits:=0)
  have c2:u * (w * (Q.y - P.y) * (w * (Q.y - P.y))) * (1 + S.y) * ((1 - D.y) * ((1 - dF * (P.x * Q.x * P.y * Q.y)) * (1 + dF * (P.x * Q.x * P.y * Q.y))))
    = w * w * ((Q.y - P.y) * (Q.y - P.y) * (((1 - dF * (P.x * Q.x * P.y * Q.y)) + S.y * (1 - dF * (P.x * Q.x * P.y * Q.y))) * (u * (1 - D.y) * (1 + dF * (P.x * Q.x * P.y * Q.y))))):=by
   clear a2 n2 o1 o2 hu u0 B2 M2;grind -lia -linarith (splits:=0)
  have c3:(1 + D.y) * (1 + dF * (P.x * Q.x * P.y * Q.y)) = (1 + dF * (P.x * Q.x * P.y * Q.y)) + D.y * (1 + dF * (P.x * Q.x * P.y * Q.y)):=by
   clear a2 n2 o1 o2 hu u0 B2 M2;grind -lia -linarith (splits:=0)
  rw [c1,c2,hu,c3,a2,B2]
  clear c1 c2 c3 a2 B2 n2 M2 hu u0 d1 d2 n4
  congr 1
  grind -lia -linarith (splits:=0)
 ·rintro ⟨h1,h2⟩
  have s0:P.y + Q.y = 0:=by
   rcases f_zero h1 with h | h <;> exact (f_zero h).resolve_left n4
  have t0:Q.y - P.y = 0:=by
   rcases f_zero ((f_zero h2).resolve_left u0) with h | h <;> exact (f_zero h).resolve_left n4
  have y2:2 * Q.y = 0:=by clear a2 B2 hu o1 o2;grind -lia -linarith (splits:=0)
  have yq:=(f_zero y2).resolve_left two_ne
  have yp:P.y = 0:=by rw [yq] at s0;clear a2 B2 hu o1 o2;grind -lia -linarith (splits:=0)
  rw [yq] at o2 B2
  rw [yp] at o1 B2
  have x1:P.x * P.x = 0 - 1:=by clear a2 B2 hu o2;grind -lia -linarith (splits:=0)
  have x2:Q.x * Q.x = 0 - 1:=by clear a2 B2 hu o1;grind -lia -linarith (splits:=0)
  have yd:D.y = 0 - P.x * Q.x:=by clear a2 hu o1 o2 x1 x2;grind -lia -linarith (splits:=0)
  have z:(1 - D.y) * (1 + D.y) = 0:=by rw [yd];clear a2 hu o1 o2 B2;grind -lia -linarith (splits:=0)
  exact f_ne d1 d2 z
def uF (P:Pt):F:=(1 + P.y) * inv (1 - P.y)
theorem lr_u {X Z:F} {P:Pt} (h:Lr X Z P):X * inv Z = uF P:=by
 obtain ⟨l,hl,rfl,rfl⟩:=h
 have:=mul_inv hl
 unfold uF
 rw [inv_mul2]
 grind -lia -linarith (splits:=0)
theorem lr_O:Lr 1 0 .O:=Lr.of (by decide +kernel) (fun h=>absurd h.1 (by decide))
theorem lr_P {u:F} {P:Pt} (hu:u * (1 - P.y) = 1 + P.y):Lr u 1 P:=Lr.of (by rw [hu];grind -lia -linarith (splits:=0)) (fun h=>absurd h.2 (by decide))
def basX:F:=15112221349535400772501151409588531511454012693041857206046113283949847762202
def basY:F:=46316835694926478169428394003475163141307993866256225615783033603165251855960
def basP:Pt:=⟨basX,basY,by unfold On;decide +kernel⟩
theorem bas_u:(9:F) * (1 - basP.y) = 1 + basP.y:=by decide +kernel
theorem u_zero {P:Pt} (h:uF P = 0):P = .O ∨ P.add P = .O:=by
 unfold uF at h
 have hy:(1 - P.y) * (1 + P.y) = 0:=by
  rcases f_zero h with h1 | h1
  ·rw [h1];grind -lia -linarith (splits:=0)
  ·have:1 - P.y = 0:=by
    apply Classical.byContradiction
    intro h2
    have:=mul_inv h2
    rw [h1] at this
    exact absurd (show (0:F) = 1 by grind -lia -linarith (splits:=0)) (by decide)
   rw [this];grind -lia -linarith (splits:=0)
 have hx:P.x * P.x * (1 + dF) = 0:=by
  have on:=P.on
  unfold On at on
  grind -lia -linarith (splits:=0)
 have hx0:P.x = 0:=by
  have:=(f_zero hx).resolve_right (by decide +kernel)
  rcases f_zero this with h | h <;> exact h
 refine Or.inr (Pt.add_eq ?_ ?_)
 ·unfold Pt.ex;rw [hx0];show (0:F) * _ = _;grind -lia -linarith (splits:=0)
 ·unfold Pt.ex;rw [hx0];show (1:F) * _ = _;grind -lia -linarith (splits:=0)
end Go.Cu
