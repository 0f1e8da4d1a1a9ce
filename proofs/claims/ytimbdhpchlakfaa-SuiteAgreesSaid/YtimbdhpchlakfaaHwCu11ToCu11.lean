/- What the functions of the program compute. No condition. -/
import Derived.Test.YtimbdhpchlakfaaHwCu9ToCu10
set_option linter.unusedSimpArgs false
set_option linter.unusedVariables false
namespace Go.Cu
open Go Go.Sx
theorem or_val' {x y:UInt64} {k:Nat} (z:Nat) (hy:y.toNat = z * 2 ^ k) (hx:x.toNat < 2 ^ k):(x ||| y).toNat = x.toNat + y.toNat:=by
 rw [UInt64.toNat_or,Nat.or_comm,hy,Nat.mul_comm,Nat.add_comm,Nat.two_pow_add_eq_or_of_lt hx]
theorem shl_mul (x:UInt64) {k:Nat} (hk:k ≤ 64):(shl64 x k).toNat = x.toNat % 2 ^ (64 - k) * 2 ^ k:=by
 rw [shl_val,show (18446744073709551616:Nat) = 2 ^ (64 - k) * 2 ^ k by rw [← Nat.pow_add,Nat.sub_add_cancel hk],Nat.mul_mod_mul_right]
theorem q_lem {x0 x1 x2 x3 x4 q1 q2 q3 q4 q5:Nat} (h1:q1 = (x0 + 19) / 2251799813685248) (h2:q2 = (x1 + q1) / 2251799813685248) (h3:q3 = (x2 + q2) / 2251799813685248) (h4:q4 = (x3 + q3) / 2251799813685248) (h5:q5 = (x4 + q4) / 2251799813685248) :
  q5 * 57896044618658097711785492504343953926634992332820282019728792003956564819968 ≤ x0 + x1 * 2251799813685248 + x2 * 5070602400912917605986812821504 + x3 * 11417981541647679048466287755595961091061972992 + x4 * 25711008708143844408671393477458601640355247900524685364822016 + 19
  ∧ x0 + x1 * 2251799813685248 + x2 * 5070602400912917605986812821504 + x3 * 11417981541647679048466287755595961091061972992 + x4 * 25711008708143844408671393477458601640355247900524685364822016 + 19 < (q5 + 1) * 57896044618658097711785492504343953926634992332820282019728792003956564819968:=by omega
theorem n_lem {x0 x1 x2 x3 x4 y1 y2 y3 y4:Nat} (h1:y1 = x1 + x0 / 2251799813685248) (h2:y2 = x2 + y1 / 2251799813685248) (h3:y3 = x3 + y2 / 2251799813685248) (h4:y4 = x4 + y3 / 2251799813685248) :
  x0 % 2251799813685248 + y1 % 2251799813685248 * 2251799813685248 + y2 % 2251799813685248 * 5070602400912917605986812821504 + y3 % 2251799813685248 * 11417981541647679048466287755595961091061972992 + y4 % 2251799813685248 * 25711008708143844408671393477458601640355247900524685364822016
   = (x0 + x1 * 2251799813685248 + x2 * 5070602400912917605986812821504 + x3 * 11417981541647679048466287755595961091061972992 + x4 * 25711008708143844408671393477458601640355247900524685364822016) % 57896044618658097711785492504343953926634992332820282019728792003956564819968:=by omega
theorem v_lem {v q:Nat} (hv:v < 86844066927987146567678238756515930889952488499230423029593188005934847229952) (h1:q * 57896044618658097711785492504343953926634992332820282019728792003956564819968 ≤ v + 19) (h2:v + 19 < (q + 1) * 57896044618658097711785492504343953926634992332820282019728792003956564819968) :
  (v + 19 * q) % 57896044618658097711785492504343953926634992332820282019728792003956564819968 = v % 57896044618658097711785492504343953926634992332820282019728792003956564819949∧q ≤ 1:=by
 have hq:q ≤ 1:=by omega
 refine ⟨?_,hq⟩
 rcases (by omega:q = 0 ∨ q = 1) with rfl | rfl <;> omega
def L51 (l:List UInt64):Prop:=(l.getD 0 0).toNat < 2251799813685248∧(l.getD 1 0).toNat < 2251799813685248∧(l.getD 2 0).toNat < 2251799813685248∧(l.getD 3 0).toNat < 2251799813685248∧(l.getD 4 0).toNat < 2251799813685248
theorem frL_eq {x0 x1 x2 x3 x4:UInt64}:frL [x0,x1,x2,x3,x4] = [x0 + UInt64.ofNat 19 * qS [x0,x1,x2,x3,x4] 5,x1,x2,x3,x4]:=rfl
theorem nmL_eq' {x0 x1 x2 x3 x4:UInt64} {y1 y2 y3 y4:UInt64} (h1:y1 = x1 + shr64 x0 51) (h2:y2 = x2 + shr64 y1 51) (h3:y3 = x3 + shr64 y2 51) (h4:y4 = x4 + shr64 y3 51) :
  (nmS [x0,x1,x2,x3,x4] 4).set 4 ((nmS [x0,x1,x2,x3,x4] 4).getD 4 0 &&& UInt64.ofNat 2251799813685247)
   = [x0 &&& UInt64.ofNat 2251799813685247,y1 &&& UInt64.ofNat 2251799813685247,y2 &&& UInt64.ofNat 2251799813685247,y3 &&& UInt64.ofNat 2251799813685247,y4 &&& UInt64.ofNat 2251799813685247]:=by
 have s1:nmS [x0,x1,x2,x3,x4] 1 = [x0 &&& UInt64.ofNat 2251799813685247,y1,x2,x3,x4]:=by rw [h1];rfl
 have s2:nmS [x0,x1,x2,x3,x4] 2 = [x0 &&& UInt64.ofNat 2251799813685247,y1 &&& UInt64.ofNat 2251799813685247,y2,x3,x4]:=by
  rw [h2];show List.set (List.set (nmS [x0,x1,x2,x3,x4] 1) 2 _) 1 _ = _;rw [s1];rfl
 have s3:nmS [x0,x1,x2,x3,x4] 3 = [x0 &&& UInt64.ofNat 2251799813685247,y1 &&& UInt64.ofNat 2251799813685247,y2 &&& UInt64.ofNat 2251799813685247,y3,x4]:=by
  rw [h3];show List.set (List.set (nmS [x0,x1,x2,x3,x4] 2) 3 _) 2 _ = _;rw [s2];rfl
 have s4:nmS [x0,x1,x2,x3,x4] 4 = [x0 &&& UInt64.ofNat 2251799813685247,y1 &&& UInt64.ofNat 2251799813685247,y2 &&& UInt64.ofNat 2251799813685247,y3 &&& UInt64.ofNat 2251799813685247,y4]:=by
  rw [h4];show List.set (List.set (nmS [x0,x1,x2,x3,x4] 3) 4 _) 3 _ = _;rw [s3];rfl
 rw [s4];rfl
theorem five_of {l:List UInt64} (h:l.length = 5):∃ x0 x1 x2 x3 x4,l = [x0,x1,x2,x3,x4]:=by
 match l,h with
 | [x0,x1,x2,x3,x4],_=>exact ⟨x0,x1,x2,x3,x4,rfl⟩
theorem c2_bound (l:List UInt64):((carL (carL l)).getD 0 0).toNat ≤ 2251799813685266∧((carL (carL l)).getD 1 0).toNat ≤ 2251799813685248∧((carL (carL l)).getD 2 0).toNat ≤ 2251799813685248∧((carL (carL l)).getD 3 0).toNat ≤ 2251799813685248∧((carL (carL l)).getD 4 0).toNat ≤ 2251799813685248:=by
 obtain ⟨e0,e1,e2,e3,e4⟩:=carL_at (carL l)
 obtain ⟨_,h0,h1,h2,h3,h4⟩:=carL_lb l
 rw [e0,e1,e2,e3,e4]
 clear e0 e1 e2 e3 e4
 refine ⟨?_,?_,?_,?_,?_⟩ <;> omega
theorem nmL_val (l:List UInt64):nv5 (nmL (carL (carL l))) = (fv l).val∧L51 (nmL (carL (carL l))):=by
 have hb:=c2_bound l
 have hf:fv (carL (carL l)) = fv l:=by rw [carL_fv,carL_fv]
 obtain ⟨x0,x1,x2,x3,x4,hx⟩:=five_of (carL_lb (carL l)).1
 rw [hx] at hb hf ⊢
 obtain ⟨b0,b1,b2,b3,b4⟩:=hb
 have b0:x0.toNat ≤ 2251799813685266:=b0
 have b1:x1.toNat ≤ 2251799813685248:=b1
 have b2:x2.toNat ≤ 2251799813685248:=b2
 have b3:x3.toNat ≤ 2251799813685248:=b3
 have b4:x4.toNat ≤ 2251799813685248:=b4
 obtain ⟨q1,hq1⟩:∃ q,q = shr64 (x0 + UInt64.ofNat 19) 51:=⟨_,rfl⟩
 obtain ⟨q2,hq2⟩:∃ q,q = shr64 (x1 + q1) 51:=⟨_,rfl⟩
 obtain ⟨q3,hq3⟩:∃ q,q = shr64 (x2 + q2) 51:=⟨_,rfl⟩
 obtain ⟨q4,hq4⟩:∃ q,q = shr64 (x3 + q3) 51:=⟨_,rfl⟩
 obtain ⟨q5,hq5⟩:∃ q,q = shr64 (x4 + q4) 51:=⟨_,rfl⟩
 have hq:qS [x0,x1,x2,x3,x4] 5 = q5:=by rw [hq5,hq4,hq3,hq2,hq1];rfl
 have v1:q1.toNat = (x0.toNat + 19) / 2251799813685248:=by rw [hq1,shr51,UInt64.toNat_add,show (UInt64.ofNat 19).toNat = 19 from rfl];congr 1;omega
 have v2:q2.toNat = (x1.toNat + q1.toNat) / 2251799813685248:=by rw [hq2,shr51,UInt64.toNat_add];congr 1;omega
 have v3:q3.toNat = (x2.toNat + q2.toNat) / 2251799813685248:=by rw [hq3,shr51,UInt64.toNat_add];congr 1;omega
 have v4:q4.toNat = (x3.toNat + q3.toNat) / 2251799813685248:=by rw [hq4,shr51,UInt64.toNat_add];congr 1;omega
 have v5:q5.toNat = (x4.toNat + q4.toNat) / 2251799813685248:=by rw [hq5,shr51,UInt64.toNat_add];congr 1;omega
 obtain ⟨k1,k2⟩:=q_lem v1 v2 v3 v4 v5
 clear v1 v2 v3 v4 v5 hq1 hq2 hq3 hq4 hq5
 have hv:nv5 [x0,x1,x2,x3,x4] = x0.toNat + x1.toNat * 2251799813685248 + x2.toNat * 5070602400912917605986812821504 + x3.toNat * 11417981541647679048466287755595961091061972992 + x4.toNat * 25711008708143844408671393477458601640355247900524685364822016:=rfl
 have hlt:nv5 [x0,x1,x2,x3,x4] < 86844066927987146567678238756515930889952488499230423029593188005934847229952:=by rw [hv];omega
 obtain ⟨m1,m2⟩:=v_lem hlt (hv ▸ k1) (hv ▸ k2)
 clear k1 k2
 unfold nmL
 rw [frL_eq,hq]
 obtain ⟨z0,hz0⟩:∃ z,z = x0 + UInt64.ofNat 19 * q5:=⟨_,rfl⟩
 rw [← hz0]
 have w0:z0.toNat = x0.toNat + 19 * q5.toNat:=by
  clear m1 hlt hv hf hx hq
  rw [hz0,UInt64.toNat_add,UInt64.toNat_mul,show (UInt64.ofNat 19).toNat = 19 from rfl];omega
 obtain ⟨y1,hy1⟩:∃ y,y = x1 + shr64 z0 51:=⟨_,rfl⟩
 obtain ⟨y2,hy2⟩:∃ y,y = x2 + shr64 y1 51:=⟨_,rfl⟩
 obtain ⟨y3,hy3⟩:∃ y,y = x3 + shr64 y2 51:=⟨_,rfl⟩
 obtain ⟨y4,hy4⟩:∃ y,y = x4 + shr64 y3 51:=⟨_,rfl⟩
 rw [nmL_eq' hy1 hy2 hy3 hy4]
 have w1:y1.toNat = x1.toNat + z0.toNat / 2251799813685248:=by clear m1 hlt hv hf hx hq hz0;rw [hy1,UInt64.toNat_add,shr51];omega
 have w2:y2.toNat = x2.toNat + y1.toNat / 2251799813685248:=by clear m1 hlt hv hf hx hq hz0;rw [hy2,UInt64.toNat_add,shr51];omega
 have w3:y3.toNat = x3.toNat + y2.toNat / 2251799813685248:=by clear m1 hlt hv hf hx hq hz0;rw [hy3,UInt64.toNat_add,shr51];omega
 have w4:y4.toNat = x4.toNat + y3.toNat / 2251799813685248:=by clear m1 hlt hv hf hx hq hz0;rw [hy4,UInt64.toNat_add,shr51];omega
 have hn:=n_lem w1 w2 w3 w4
 rw [w0] at hn
 have hs:x0.toNat + 19 * q5.toNat + x1.toNat * 2251799813685248 + x2.toNat * 5070602400912917605986812821504 + x3.toNat * 11417981541647679048466287755595961091061972992 + x4.toNat * 25711008708143844408671393477458601640355247900524685364822016 = nv5 [x0,x1,x2,x3,x4] + 19 * q5.toNat:=by rw [hv];clear m1 hlt hv hf hx hq hz0 hn w0 w1 w2 w3 w4;omega
 rw [hs,m1] at hn
 refine ⟨?_,?_⟩
 ·show (z0 &&& UInt64.ofNat 2251799813685247).toNat + (y1 &&& UInt64.ofNat 2251799813685247).toNat * _ + (y2 &&& UInt64.ofNat 2251799813685247).toNat * _ + (y3 &&& UInt64.ofNat 2251799813685247).toNat * _ + (y4 &&& UInt64.ofNat 2251799813685247).toNat * _ = _
  rw [and51,and51,and51,and51,and51,w0,hn,← hf]
  rfl
 ·refine ⟨?_,?_,?_,?_,?_⟩
  ·show (z0 &&& UInt64.ofNat 2251799813685247).toNat < _;rw [and51];exact Nat.mod_lt _ (by decide)
  ·show (y1 &&& UInt64.ofNat 2251799813685247).toNat < _;rw [and51];exact Nat.mod_lt _ (by decide)
  ·show (y2 &&& UInt64.ofNat 2251799813685247).toNat < _;rw [and51];exact Nat.mod_lt _ (by decide)
  ·show (y3 &&& UInt64.ofNat 2251799813685247).toNat < _;rw [and51];exact Nat.mod_lt _ (by decide)
  ·show (y4 &&& UInt64.ofNat 2251799813685247).toNat < _;rw [and51];exact Nat.mod_lt _ (by decide)
theorem w_lem0 {n0 n1 n2 n3 n4:Nat} (h0:n0 < 2251799813685248):n0 + n1 % 2 ^ (64 - 51) * 2 ^ 51 = (n0 + n1 * 2251799813685248 + n2 * 5070602400912917605986812821504 + n3 * 11417981541647679048466287755595961091061972992 + n4 * 25711008708143844408671393477458601640355247900524685364822016) % 18446744073709551616:=by omega
theorem w_lem1 {n0 n1 n2 n3 n4:Nat} (h0:n0 < 2251799813685248) (h1:n1 < 2251799813685248):n1 / 2 ^ 13 + n2 % 2 ^ (64 - 38) * 2 ^ 38 = (n0 + n1 * 2251799813685248 + n2 * 5070602400912917605986812821504 + n3 * 11417981541647679048466287755595961091061972992 + n4 * 25711008708143844408671393477458601640355247900524685364822016) / 18446744073709551616 % 18446744073709551616:=by omega
theorem w_lem2 {n0 n1 n2 n3 n4:Nat} (h0:n0 < 2251799813685248) (h1:n1 < 2251799813685248) (h2:n2 < 2251799813685248):n2 / 2 ^ 26 + n3 % 2 ^ (64 - 25) * 2 ^ 25 = (n0 + n1 * 2251799813685248 + n2 * 5070602400912917605986812821504 + n3 * 11417981541647679048466287755595961091061972992 + n4 * 25711008708143844408671393477458601640355247900524685364822016) / 340282366920938463463374607431768211456 % 18446744073709551616:=by omega
theorem w_lem3 {n0 n1 n2 n3 n4:Nat} (h0:n0 < 2251799813685248) (h1:n1 < 2251799813685248) (h2:n2 < 2251799813685248) (h3:n3 < 2251799813685248):n3 / 2 ^ 39 + n4 % 2 ^ (64 - 12) * 2 ^ 12 = (n0 + n1 * 2251799813685248 + n2 * 5070602400912917605986812821504 + n3 * 11417981541647679048466287755595961091061972992 + n4 * 25711008708143844408671393477458601640355247900524685364822016) / 6277101735386680763835789423207666416102355444464034512896 % 18446744073709551616:=by omega
theorem wdL_val {l:List UInt64} (h:L51 l):∀ j,j < 4→((wdL l).getD j 0).toNat = nv5 l / 18446744073709551616 ^ j % 18446744073709551616:=by
 obtain ⟨h0,h1,h2,h3,h4⟩:=h
 intro j hj
 have:j = 0 ∨ j = 1 ∨ j = 2 ∨ j = 3:=by omega
 unfold nv5
 rcases this with rfl | rfl | rfl | rfl
 ·show (l.getD 0 0 ||| shl64 (l.getD 1 0) 51).toNat = _ / 1 % _
  rw [or_val' _ (shl_mul _ (by omega)) h0,shl_mul _ (by omega),Nat.div_one]
  exact w_lem0 h0
 ·show (shr64 (l.getD 1 0) 13 ||| shl64 (l.getD 2 0) 38).toNat = _ / 18446744073709551616 % _
  have hs:(shr64 (l.getD 1 0) 13).toNat < 2 ^ 38:=by rw [shr_val];exact Nat.div_lt_of_lt_mul h1
  rw [or_val' _ (shl_mul _ (by omega)) hs,shl_mul _ (by omega),shr_val]
  exact w_lem1 h0 h1
 ·show (shr64 (l.getD 2 0) 26 ||| shl64 (l.getD 3 0) 25).toNat = _ / 340282366920938463463374607431768211456 % _
  have hs:(shr64 (l.getD 2 0) 26).toNat < 2 ^ 25:=by rw [shr_val];exact Nat.div_lt_of_lt_mul h2
  rw [or_val' _ (shl_mul _ (by omega)) hs,shl_mul _ (by omega),shr_val]
  exact w_lem2 h0 h1 h2
 ·show (shr64 (l.getD 3 0) 39 ||| shl64 (l.getD 4 0) 12).toNat = _ / 6277101735386680763835789423207666416102355444464034512896 % _
  have hs:(shr64 (l.getD 3 0) 39).toNat < 2 ^ 12:=by rw [shr_val];exact Nat.div_lt_of_lt_mul h3
  rw [or_val' _ (shl_mul _ (by omega)) hs,shl_mul _ (by omega),shr_val]
  exact w_lem3 h0 h1 h2 h3
theorem bytL_eq (l:List UInt64):bytL l = leB (fv l):=by
 obtain ⟨h1,h2⟩:=nmL_val l
 unfold bytL leB
 rw [← h1]
 exact byS_all (wdL_val h2)
def owS (b:List UInt8):Nat→List UInt64
 | 0=>List.replicate 4 0
 | i + 1=>(owS b i).set (i / 8) ((owS b i).getD (i / 8) 0 ||| shl64 (b.getD i 0).toUInt64 (i % 8 * 8))
theorem owS_length (b:List UInt8):∀ i,(owS b i).length = 4
 | 0=>rfl
 | i + 1=>by show ((owS b i).set _ _).length = 4;rw [List.length_set];exact owS_length b i
def ofW (w:List UInt64):List UInt64:=
 [w.getD 0 0 &&& UInt64.ofNat 2251799813685247,(shr64 (w.getD 0 0) 51 ||| shl64 (w.getD 1 0) 13) &&& UInt64.ofNat 2251799813685247,(shr64 (w.getD 1 0) 38 ||| shl64 (w.getD 2 0) 26) &&& UInt64.ofNat 2251799813685247,
  (shr64 (w.getD 2 0) 25 ||| shl64 (w.getD 3 0) 39) &&& UInt64.ofNat 2251799813685247,shr64 (w.getD 3 0) 12 &&& UInt64.ofNat 2251799813685247]
def ofL (b:List UInt8):List UInt64:=ofW (owS b 32)
theorem lv_at:∀ (b:List UInt8) (i:Nat),lv b / 256 ^ i % 256 = (b.getD i 0).toNat
 | [],i=>by show 0 / _ % 256 = 0;rw [Nat.zero_div]
 | x :: r,0=>by
  have:=x.toNat_lt
  show (x.toNat + 256 * lv r) / 1 % 256 = x.toNat;omega
 | x :: r,i + 1=>by
  have:=x.toNat_lt
  show (x.toNat + 256 * lv r) / 256 ^ (i + 1) % 256 = (r.getD i 0).toNat
  rw [Nat.pow_succ',← Nat.div_div_eq_div_mul,show (x.toNat + 256 * lv r) / 256 = lv r by omega]
  exact lv_at r i
theorem lv_lt:∀ b:List UInt8,lv b < 256 ^ b.length
 | []=>by decide
 | x :: r=>by
  have:=x.toNat_lt
  have h:=lv_lt r
  show x.toNat + 256 * lv r < 256 ^ (r.length + 1)
  rw [Nat.pow_succ'];omega
theorem owS_val (b:List UInt8):∀ i,i ≤ 32→∀ j,j < 4→((owS b i).getD j 0).toNat = lv b / 18446744073709551616 ^ j % 256 ^ (min 8 (i - 8 * j))
 | 0,_,j,hj=>by
  rw [Nat.zero_sub,Nat.min_eq_right (by omega),Nat.pow_zero,Nat.mod_one]
  have:j = 0 ∨ j = 1 ∨ j = 2 ∨ j = 3:=by omega
  rcases this with rfl | rfl | rfl | rfl <;> rfl
 | i + 1,hi,j,hj=>by
  have ih:=owS_val b i (by omega)
  show (((owS b i).set (i / 8) _).getD j 0).toNat = _
  by_cases h:i / 8 = j
  ·subst h
   rw [List.getD_eq_getElem?_getD,List.getElem?_set_self (by rw [owS_length];omega)]
   show ((owS b i).getD (i / 8) 0 ||| shl64 (b.getD i 0).toUInt64 (i % 8 * 8)).toNat = _
   have e:=ih (i / 8) hj
   have hm:i - 8 * (i / 8) = i % 8:=by omega
   rw [hm,Nat.min_eq_right (by omega)] at e
   rw [show i + 1 - 8 * (i / 8) = i % 8 + 1 by omega,Nat.min_eq_right (by omega)]
   have hp:(256:Nat) ^ (i % 8) = 2 ^ (i % 8 * 8):=by rw [show (256:Nat) = 2 ^ 8 from rfl,← Nat.pow_mul,Nat.mul_comm]
   have hlt:((owS b i).getD (i / 8) 0).toNat < 2 ^ (i % 8 * 8):=by rw [e,hp];exact Nat.mod_lt _ (Nat.two_pow_pos _)
   have hb:=(b.getD i 0).toNat_lt
   have hsm:(shl64 (b.getD i 0).toUInt64 (i % 8 * 8)).toNat = (b.getD i 0).toNat * 2 ^ (i % 8 * 8):=by
    rw [shl_val,UInt8.toNat_toUInt64]
    apply Nat.mod_eq_of_lt
    have h8:i % 8 < 8:=Nat.mod_lt _ (by omega)
    have:(2:Nat) ^ (i % 8 * 8) ≤ 2 ^ 56:=Nat.pow_le_pow_right (by omega) (by omega)
    have:=Nat.mul_le_mul (show (b.getD i 0).toNat ≤ 255 by omega) this
    have:(255 * 2 ^ 56:Nat) < 18446744073709551616:=by decide
    omega
   rw [or_val' _ hsm hlt,hsm,e,← lv_at b i,Nat.pow_succ,Nat.mod_mul]
   congr 1
   rw [hp,Nat.mul_comm]
   congr 2
   have e256:(256:Nat) ^ i = 18446744073709551616 ^ (i / 8) * 2 ^ (i % 8 * 8):=by
    rw [show (256:Nat) = 2 ^ 8 from rfl,show (18446744073709551616:Nat) = 2 ^ 64 from rfl,← Nat.pow_mul,← Nat.pow_mul,← Nat.pow_add]
    congr 1;omega
   rw [e256,Nat.div_div_eq_div_mul]
  ·rw [List.getD_eq_getElem?_getD,List.getElem?_set_ne (by omega),← List.getD_eq_getElem?_getD,ih j hj]
   congr 2
   by_cases h2:i / 8 < j
   ·rw [show i - 8 * j = 0 by omega,show i + 1 - 8 * j = 0 by omega]
   ·rw [Nat.min_eq_left (by omega),Nat.min_eq_left (by omega)]
theorem o_lem1 {V:Nat}:((V % 18446744073709551616) / 2 ^ 51 + V / 18446744073709551616 % 18446744073709551616 % 2 ^ (64 - 13) * 2 ^ 13) % 2251799813685248 = V / 2251799813685248 % 2251799813685248:=by omega
theorem o_lem2 {V:Nat}:((V / 18446744073709551616 % 18446744073709551616) / 2 ^ 38 + V / 340282366920938463463374607431768211456 % 18446744073709551616 % 2 ^ (64 - 26) * 2 ^ 26) % 2251799813685248 = V / 5070602400912917605986812821504 % 2251799813685248:=by omega
theorem o_lem3 {V:Nat}:((V / 340282366920938463463374607431768211456 % 18446744073709551616) / 2 ^ 25 + V / 6277101735386680763835789423207666416102355444464034512896 % 18446744073709551616 % 2 ^ (64 - 39) * 2 ^ 39) % 2251799813685248 = V / 11417981541647679048466287755595961091061972992 % 2251799813685248:=by omega
theorem o_lem4 {V:Nat}:(V / 6277101735386680763835789423207666416102355444464034512896 % 18446744073709551616) / 2 ^ 12 % 2251799813685248 = V / 25711008708143844408671393477458601640355247900524685364822016 % 2251799813685248:=by omega
theorem o_sum {V:Nat}:V % 2251799813685248 + V / 2251799813685248 % 2251799813685248 * 2251799813685248 + V / 5070602400912917605986812821504 % 2251799813685248 * 5070602400912917605986812821504 + V / 11417981541647679048466287755595961091061972992 % 2251799813685248 * 11417981541647679048466287755595961091061972992 + V / 25711008708143844408671393477458601640355247900524685364822016 % 2251799813685248 * 25711008708143844408671393477458601640355247900524685364822016 = V % 57896044618658097711785492504343953926634992332820282019728792003956564819968:=by omega
theorem ofL_val (b:List UInt8):nv5 (ofL b) = lv b % 57896044618658097711785492504343953926634992332820282019728792003956564819968∧Lb (ofL b):=by
 have w0:((owS b 32).getD 0 0).toNat = lv b % 18446744073709551616:=by have:=owS_val b 32 (by omega) 0 (by omega);rw [Nat.pow_zero,Nat.div_one] at this;exact this
 have w1:((owS b 32).getD 1 0).toNat = lv b / 18446744073709551616 % 18446744073709551616:=owS_val b 32 (by omega) 1 (by omega)
 have w2:((owS b 32).getD 2 0).toNat = lv b / 340282366920938463463374607431768211456 % 18446744073709551616:=owS_val b 32 (by omega) 2 (by omega)
 have w3:((owS b 32).getD 3 0).toNat = lv b / 6277101735386680763835789423207666416102355444464034512896 % 18446744073709551616:=owS_val b 32 (by omega) 3 (by omega)
 have t0:=((owS b 32).getD 0 0).toNat_lt
 have t1:=((owS b 32).getD 1 0).toNat_lt
 have t2:=((owS b 32).getD 2 0).toNat_lt
 have t3:=((owS b 32).getD 3 0).toNat_lt
 have g0:((ofL b).getD 0 0).toNat = lv b % 2251799813685248:=by
  show ((owS b 32).getD 0 0 &&& UInt64.ofNat 2251799813685247).toNat = _
  rw [and51,w0];clear w1 w2 w3 t0 t1 t2 t3;omega
 have g1:((ofL b).getD 1 0).toNat = lv b / 2251799813685248 % 2251799813685248:=by
  show ((shr64 ((owS b 32).getD 0 0) 51 ||| shl64 ((owS b 32).getD 1 0) 13) &&& UInt64.ofNat 2251799813685247).toNat = _
  have hs:(shr64 ((owS b 32).getD 0 0) 51).toNat < 2 ^ 13:=by rw [shr_val];exact Nat.div_lt_of_lt_mul t0
  rw [and51,or_val' _ (shl_mul _ (by omega)) hs,shl_mul _ (by omega),shr_val,w0,w1]
  exact o_lem1
 have g2:((ofL b).getD 2 0).toNat = lv b / 5070602400912917605986812821504 % 2251799813685248:=by
  show ((shr64 ((owS b 32).getD 1 0) 38 ||| shl64 ((owS b 32).getD 2 0) 26) &&& UInt64.ofNat 2251799813685247).toNat = _
  have hs:(shr64 ((owS b 32).getD 1 0) 38).toNat < 2 ^ 26:=by rw [shr_val];exact Nat.div_lt_of_lt_mul t1
  rw [and51,or_val' _ (shl_mul _ (by omega)) hs,shl_mul _ (by omega),shr_val,w1,w2]
  exact o_lem2
 have g3:((ofL b).getD 3 0).toNat = lv b / 11417981541647679048466287755595961091061972992 % 2251799813685248:=by
  show ((shr64 ((owS b 32).getD 2 0) 25 ||| shl64 ((owS b 32).getD 3 0) 39) &&& UInt64.ofNat 2251799813685247).toNat = _
  have hs:(shr64 ((owS b 32).getD 2 0) 25).toNat < 2 ^ 39:=by rw [shr_val];exact Nat.div_lt_of_lt_mul t2
  rw [and51,or_val' _ (shl_mul _ (by omega)) hs,shl_mul _ (by omega),shr_val,w2,w3]
  exact o_lem3
 have g4:((ofL b).getD 4 0).toNat = lv b / 25711008708143844408671393477458601640355247900524685364822016 % 2251799813685248:=by
  show (shr64 ((owS b 32).getD 3 0) 12 &&& UInt64.ofNat 2251799813685247).toNat = _
  rw [and51,shr_val,w3]
  exact o_lem4
 refine ⟨?_,rfl,?_,?_,?_,?_,?_⟩
 ·unfold nv5
  rw [g0,g1,g2,g3,g4]
  exact o_sum
 ·rw [g0];exact Nat.lt_trans (Nat.mod_lt _ (by decide)) (by decide)
 ·rw [g1];exact Nat.lt_trans (Nat.mod_lt _ (by decide)) (by decide)
 ·rw [g2];exact Nat.lt_trans (Nat.mod_lt _ (by decide)) (by decide)
 ·rw [g3];exact Nat.lt_trans (Nat.mod_lt _ (by decide)) (by decide)
 ·rw [g4];exact Nat.lt_trans (Nat.mod_lt _ (by decide)) (by decide)
def ofF (b:List UInt8):F:=fn (lv b % 57896044618658097711785492504343953926634992332820282019728792003956564819968)
theorem ofL_fv (b:List UInt8):fv (ofL b) = ofF b:=by unfold fv ofF;rw [(ofL_val b).1]
theorem ofF_leB (x:F):ofF (leB x) = x:=by
 unfold ofF
 rw [lv_leB,Nat.mod_eq_of_lt (Nat.lt_trans x.isLt (by decide)),fn_self]
end Go.Cu
