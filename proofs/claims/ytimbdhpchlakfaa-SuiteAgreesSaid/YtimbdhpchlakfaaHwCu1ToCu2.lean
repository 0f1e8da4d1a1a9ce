/- What the functions of the program compute. No condition. -/
set_option linter.unusedSimpArgs false
set_option linter.unusedVariables false
namespace Go.Cu
def IsP (p:Nat):Prop:=2 ≤ p∧∀ m,m ∣ p→m = 1 ∨ m = p
theorem IsP.euclid {p:Nat} (h:IsP p) {a b:Nat} (hd:p ∣ a * b):p ∣ a ∨ p ∣ b:=by
 rcases h.2 (Nat.gcd p a) (Nat.gcd_dvd_left p a) with h1 | h1
 ·exact Or.inr (Nat.Coprime.dvd_of_dvd_mul_left h1 hd)
 ·exact Or.inl (h1 ▸ Nat.gcd_dvd_right p a)
theorem exP:∀ n,2 ≤ n→∃ p,IsP p∧p ∣ n:=by
 intro n
 induction n using Nat.strongRecOn with
 | _ n ih=>
  intro hn
  by_cases h:IsP n
  ·exact ⟨n,h,Nat.dvd_refl n⟩
  ·have:∃ m,m ∣ n∧m ≠ 1∧m ≠ n:=by
    apply Classical.byContradiction
    intro hc
    apply h
    refine ⟨hn,fun m hm=>?_⟩
    by_cases h1:m = 1
    ·exact Or.inl h1
    ·by_cases h2:m = n
     ·exact Or.inr h2
     ·exact absurd ⟨m,hm,h1,h2⟩ hc
   obtain ⟨m,hm,h1,h2⟩:=this
   have hle:=Nat.le_of_dvd (by omega) hm
   have h0:m ≠ 0:=by rintro rfl;have:=Nat.eq_zero_of_zero_dvd hm;omega
   obtain ⟨p,hp,hpm⟩:=ih m (by omega) (by omega)
   exact ⟨p,hp,Nat.dvd_trans hpm hm⟩
def ch:Nat→Nat→Nat
 | _,0=>1
 | 0,_ + 1=>0
 | n + 1,k + 1=>ch n k + ch n (k + 1)
theorem ch_abs:∀ n k,(k + 1) * ch (n + 1) (k + 1) = (n + 1) * ch n k
 | 0,0=>rfl
 | 0,k + 1=>by show (k + 1 + 1) * (ch 0 (k + 1) + ch 0 (k + 2)) = 1 * ch 0 (k + 1);show (k + 2) * (0 + 0) = 1 * 0;omega
 | n + 1,0=>by
  have h:=ch_abs n 0
  show 1 * (ch (n + 1) 0 + ch (n + 1) 1) = (n + 2) * ch (n + 1) 0
  have e:ch (n + 1) 0 = 1:=rfl
  have e2:ch n 0 = 1:=by cases n <;> rfl
  have h':1 * ch (n + 1) 1 = (n + 1) * ch n 0:=h
  rw [e2] at h'
  rw [e];omega
 | n + 1,k + 1=>by
  have h1:=ch_abs n k
  have h2:=ch_abs n (k + 1)
  show (k + 2) * (ch (n + 1) (k + 1) + ch (n + 1) (k + 2)) = (n + 2) * ch (n + 1) (k + 1)
  have e:ch (n + 1) (k + 1) = ch n k + ch n (k + 1):=rfl
  have h3:(k + 2) * ch (n + 1) (k + 1) = (n + 1) * ch n k + ch (n + 1) (k + 1):=by
   rw [← h1,← Nat.succ_mul]
  have h2':(k + 2) * ch (n + 1) (k + 2) = (n + 1) * ch n (k + 1):=h2
  rw [Nat.mul_add,h3,h2']
  have:(n + 2) * ch (n + 1) (k + 1) = (n + 1) * ch (n + 1) (k + 1) + ch (n + 1) (k + 1):=Nat.succ_mul _ _
  rw [this,e,Nat.mul_add]
  omega
theorem ch_big:∀ n k,n < k→ch n k = 0
 | 0,k + 1,_=>rfl
 | n + 1,k + 1,h=>by show ch n k + ch n (k + 1) = 0;rw [ch_big n k (by omega),ch_big n (k + 1) (by omega)]
theorem ch_self:∀ n,ch n n = 1
 | 0=>rfl
 | n + 1=>by show ch n n + ch n (n + 1) = 1;rw [ch_self n,ch_big n (n + 1) (by omega)]
def bs (n a:Nat):Nat→Nat
 | 0=>0
 | k + 1=>bs n a k + ch n k * a ^ k
theorem bs_step (n a:Nat):∀ k,bs (n + 1) a (k + 1) = bs n a (k + 1) + a * bs n a k
 | 0=>by show 0 + ch (n + 1) 0 * 1 = 0 + ch n 0 * 1 + a * 0;have:ch n 0 = 1:=(by cases n <;> rfl);have e:ch (n + 1) 0 = 1:=rfl;rw [this,e];omega
 | k + 1=>by
  have h:=bs_step n a k
  show bs (n + 1) a (k + 1) + ch (n + 1) (k + 1) * a ^ (k + 1) = bs n a (k + 1) + ch n (k + 1) * a ^ (k + 1) + a * (bs n a k + ch n k * a ^ k)
  have e:ch (n + 1) (k + 1) = ch n k + ch n (k + 1):=rfl
  have e2:a * (ch n k * a ^ k) = ch n k * a ^ (k + 1):=by rw [Nat.pow_succ,Nat.mul_comm (a ^ k) a,← Nat.mul_assoc,← Nat.mul_assoc,Nat.mul_comm a]
  rw [h,e,Nat.add_mul,Nat.mul_add,e2]
  omega
theorem bs_all (a:Nat):∀ n,(a + 1) ^ n = bs n a (n + 1)
 | 0=>by show 1 = 0 + 1 * 1;rfl
 | n + 1=>by
  rw [bs_step,Nat.pow_succ,bs_all a n]
  have:bs n a (n + 2) = bs n a (n + 1) + ch n (n + 1) * a ^ (n + 1):=rfl
  rw [this,ch_big n (n + 1) (by omega),Nat.zero_mul,Nat.mul_add,Nat.mul_comm a]
  omega
theorem ch_dvd {p k:Nat} (h:IsP p) (h0:0 < k) (hk:k < p):p ∣ ch p k:=by
 obtain ⟨k,rfl⟩:∃ j,k = j + 1:=⟨k - 1,by omega⟩
 obtain ⟨p',rfl⟩:∃ j,p = j + 1:=⟨p - 1,by omega⟩
 have h1:=ch_abs p' k
 rcases h.euclid (a:=k + 1) (b:=ch (p' + 1) (k + 1)) ⟨ch p' k,h1⟩ with h2 | h2
 ·have:=Nat.le_of_dvd (by omega) h2;omega
 ·exact h2
theorem bs_mod {p:Nat} (h:IsP p) (a:Nat):∀ k,k + 1 ≤ p→bs p a (k + 1) % p = 1
 | 0,_=>by
  have h2:=h.1
  show (0 + ch p 0 * 1) % p = 1
  have:ch p 0 = 1:=by cases p <;> rfl
  rw [this];exact Nat.mod_eq_of_lt (by omega)
 | k + 1,hk=>by
  have ih:=bs_mod h a k (by omega)
  obtain ⟨c,hc⟩:=ch_dvd h (k:=k + 1) (by omega) (by omega)
  show (bs p a (k + 1) + ch p (k + 1) * a ^ (k + 1)) % p = 1
  rw [hc,Nat.mul_assoc,Nat.add_mul_mod_self_left,ih]
theorem fermat {p:Nat} (h:IsP p):∀ a,a ^ p % p = a % p
 | 0=>by have:=h.1;rw [Nat.zero_pow (by omega)]
 | a + 1=>by
  have ih:=fermat h a
  have h2:=h.1
  rw [bs_all]
  have e:bs p a (p + 1) = bs p a p + ch p p * a ^ p:=rfl
  have hb:=bs_mod h a (p - 1) (by omega)
  rw [show p - 1 + 1 = p by omega] at hb
  rw [e,ch_self,Nat.one_mul,Nat.add_mod,ih,hb,Nat.add_comm,Nat.mod_add_mod]
theorem fermat1 {p a:Nat} (h:IsP p) (ha:¬ p ∣ a):a ^ (p - 1) % p = 1:=by
 have h2:=h.1
 have hf:=fermat h a
 have e:a ^ p = a * a ^ (p - 1):=by
  have:=@Nat.pow_succ' a (p - 1)
  rw [← this];congr 1;omega
 have hpos:0 < a ^ (p - 1):=Nat.pow_pos (by rcases Nat.eq_zero_or_pos a with rfl | h;exact absurd (Nat.dvd_zero p) ha;exact h)
 have hd:p ∣ a * (a ^ (p - 1) - 1):=by
  rw [Nat.mul_sub,← e,Nat.mul_one]
  exact Nat.dvd_of_mod_eq_zero (Nat.sub_mod_eq_zero_of_mod_eq hf)
 rcases h.euclid hd with h3 | h3
 ·exact absurd h3 ha
 ·obtain ⟨c,hc⟩:=h3
  have e2:a ^ (p - 1) = p * c + 1:=by omega
  rw [e2,Nat.mul_add_mod];exact Nat.mod_eq_of_lt (by omega)
theorem pow_mod1 {b r x:Nat} (h:b ^ x % r = 1) (hr:1 < r) (k:Nat):b ^ (x * k) % r = 1:=by
 rw [Nat.pow_mul,Nat.pow_mod,h,Nat.one_pow];exact Nat.mod_eq_of_lt hr
theorem pow_gcd {b r:Nat} (hr:1 < r):∀ x y,b ^ x % r = 1→b ^ y % r = 1→b ^ Nat.gcd x y % r = 1:=by
 intro x
 induction x using Nat.strongRecOn with
 | _ x ih=>
  intro y hx hy
  rcases Nat.eq_zero_or_pos x with rfl | h0
  ·rw [Nat.gcd_zero_left];exact hy
  ·rw [Nat.gcd_rec]
   refine ih (y % x) (Nat.mod_lt _ h0) x ?_ hx
   have e:b ^ y = b ^ (x * (y / x)) * b ^ (y % x):=by rw [← Nat.pow_add,Nat.div_add_mod]
   rw [e,Nat.mul_mod,pow_mod1 hx hr,Nat.one_mul,Nat.mod_mod] at hy
   exact hy
theorem pock {N a q m r:Nat} (hq:IsP q) (hN:N = q * m + 1) (h1:a ^ (q * m) % N = 1) (hg:Nat.gcd (a ^ m % N + (N - 1)) N = 1) (hr:IsP r) (hd:r ∣ N):q ∣ r - 1:=by
 have hr2:=hr.1
 apply Classical.byContradiction
 intro hc
 have hco:Nat.gcd q (r - 1) = 1:=by
  rcases hq.2 _ (Nat.gcd_dvd_left q (r - 1)) with h | h
  ·exact h
  ·exact absurd (h ▸ Nat.gcd_dvd_right q (r - 1)) hc
 have hbq:(a ^ m) ^ q % r = 1:=by
  rw [← Nat.pow_mul,Nat.mul_comm m q,← Nat.mod_mod_of_dvd _ hd,h1]
  exact Nat.mod_eq_of_lt hr2
 have hnd:¬ r ∣ a ^ m:=by
  intro h
  have hq2:=hq.1
  have h3:r ∣ (a ^ m) ^ q:=Nat.dvd_trans h ⟨(a ^ m) ^ (q - 1),by have:=@Nat.pow_succ' (a ^ m) (q - 1);rw [← this];congr 1;omega⟩
  have:=Nat.mod_eq_zero_of_dvd h3
  omega
 have hbr:=fermat1 hr hnd
 have hb:=pow_gcd (by omega) q (r - 1) hbq hbr
 rw [hco,Nat.pow_one] at hb
 have h4:(a ^ m % N) % r = 1:=by rw [Nat.mod_mod_of_dvd _ hd];exact hb
 have h5:r ∣ a ^ m % N + (N - 1):=by
  apply Nat.dvd_of_mod_eq_zero
  obtain ⟨k,hk⟩:=hd
  have hk1:1 ≤ k:=by rcases Nat.eq_zero_or_pos k with rfl | h;rw [Nat.mul_zero] at hk;omega;exact h
  have e:a ^ m % N + (N - 1) = r * (a ^ m % N / r) + r * k:=by
   have:=Nat.div_add_mod (a ^ m % N) r
   have hN1:1 ≤ N:=by rw [hN];omega
   rw [h4] at this
   omega
  rw [e,← Nat.mul_add,Nat.mul_mod_right]
 have h6:r ∣ 1:=hg ▸ Nat.dvd_gcd h5 hd
 have:=Nat.le_of_dvd (by omega) h6
 omega
theorem pock1 {N Q:Nat} (hN:2 ≤ N) (h:∀ r,IsP r→r ∣ N→Q ∣ r - 1) (hQ:N < (Q + 1) * (Q + 1)):IsP N:=by
 have key:∀ m,m ∣ N→2 ≤ m→Q + 1 ≤ m:=by
  intro m hm h2
  obtain ⟨r,hr,hrm⟩:=exP m h2
  have h1:=h r hr (Nat.dvd_trans hrm hm)
  have h3:=hr.1
  have:=Nat.le_of_dvd (by omega) h1
  have:=Nat.le_of_dvd (by omega) hrm
  omega
 refine ⟨hN,fun m hm=>?_⟩
 obtain ⟨k,hk⟩:=hm
 by_cases h1:m = 1
 ·exact Or.inl h1
 by_cases h2:m = N
 ·exact Or.inr h2
 have m0:m ≠ 0:=by rintro rfl;omega
 have k0:k ≠ 0:=by rintro rfl;omega
 have k1:k ≠ 1:=by rintro rfl;omega
 have:=Nat.mul_le_mul (key m ⟨k,hk⟩ (by omega)) (key k ⟨m,by rw [hk,Nat.mul_comm]⟩ (by omega))
 omega
def mpow (m a:Nat):Nat→Nat→Nat
 | 0,_=>1 % m
 | f + 1,e=>let h:=mpow m a f (e / 2);if e % 2 = 0 then h * h % m else h * h % m * a % m
theorem mpow_eq (m a:Nat):∀ f e,e < 2 ^ f→mpow m a f e = a ^ e % m
 | 0,e,h=>by
  have:e = 0:=by simpa using h
  subst this;rfl
 | f + 1,e,h=>by
  have ih:=mpow_eq m a f (e / 2) (by rw [Nat.pow_succ] at h;omega)
  have e1:=Nat.div_add_mod e 2
  unfold mpow
  rw [ih]
  show (if e % 2 = 0 then a ^ (e / 2) % m * (a ^ (e / 2) % m) % m else a ^ (e / 2) % m * (a ^ (e / 2) % m) % m * a % m) = a ^ e % m
  rw [← Nat.mul_mod,← Nat.pow_add]
  by_cases h0:e % 2 = 0
  ·rw [if_pos h0];congr 2;omega
  ·rw [if_neg h0,Nat.mod_mul_mod,← Nat.pow_succ];congr 2;omega
def noDiv (n:Nat):Nat→Bool
 | 0=>true
 | 1=>true
 | k + 2=>n % (k + 2) != 0 && noDiv n (k + 1)
theorem noDiv_spec (n:Nat):∀ k,noDiv n k = true→∀ j,2 ≤ j→j ≤ k→n % j ≠ 0
 | 0,_,j,h1,h2=>by omega
 | 1,_,j,h1,h2=>by omega
 | k + 2,h,j,h1,h2=>by
  unfold noDiv at h
  rw [Bool.and_eq_true] at h
  by_cases hj:j = k + 2
  ·subst hj;simpa using h.1
  ·exact noDiv_spec n (k + 1) h.2 j h1 (by omega)
theorem small {n:Nat} (k:Nat) (h2:2 ≤ n) (hk:n < (k + 1) * (k + 1)) (h:noDiv n k = true):IsP n:=by
 have key:∀ m,m ∣ n→2 ≤ m→k + 1 ≤ m:=by
  intro m hm hm2
  apply Classical.byContradiction
  intro hc
  exact noDiv_spec n k h m hm2 (by omega) (Nat.mod_eq_zero_of_dvd hm)
 refine ⟨h2,fun m hm=>?_⟩
 obtain ⟨j,hj⟩:=hm
 by_cases h1:m = 1
 ·exact Or.inl h1
 by_cases h3:m = n
 ·exact Or.inr h3
 have m0:m ≠ 0:=by rintro rfl;omega
 have k0:j ≠ 0:=by rintro rfl;omega
 have k1:j ≠ 1:=by rintro rfl;omega
 have:=Nat.mul_le_mul (key m ⟨j,hj⟩ (by omega)) (key j ⟨m,by rw [hj,Nat.mul_comm]⟩ (by omega))
 omega
def pkB (N q:Nat):Bool:=N == q * ((N - 1) / q) + 1 && (mpow N 2 256 (N - 1) == 1 && Nat.gcd (mpow N 2 256 ((N - 1) / q) + (N - 1)) N == 1)
theorem pkB_dvd {N q r:Nat} (hq:IsP q) (hN:N < 2 ^ 256) (h:pkB N q = true) (hr:IsP r) (hd:r ∣ N):q ∣ r - 1:=by
 unfold pkB at h
 rw [Bool.and_eq_true,Bool.and_eq_true,beq_iff_eq,beq_iff_eq,beq_iff_eq] at h
 obtain ⟨h1,h2,h3⟩:=h
 rw [mpow_eq N 2 256 _ (by omega)] at h2
 rw [mpow_eq N 2 256 _ (Nat.lt_of_le_of_lt (Nat.div_le_self _ _) (by omega))] at h3
 refine pock hq (m:=(N - 1) / q) (a:=2) h1 ?_ h3 hr hd
 have:q * ((N - 1) / q) = N - 1:=by omega
 rw [this];exact h2
theorem pk1 {N:Nat} (q:Nat) (hq:IsP q) (hN2:2 ≤ N) (hN:N < 2 ^ 256) (hQ:N < (q + 1) * (q + 1)) (h:pkB N q = true):IsP N:=
 pock1 hN2 (fun _ hr hd=>pkB_dvd hq hN h hr hd) hQ
theorem pk2 {N:Nat} (q s:Nat) (hq:IsP q) (hs:IsP s) (hc:Nat.gcd q s = 1) (hN2:2 ≤ N) (hN:N < 2 ^ 256) (hQ:N < (q * s + 1) * (q * s + 1)) (h:pkB N q = true) (h':pkB N s = true):IsP N:=
 pock1 hN2 (fun _ hr hd=>Nat.Coprime.mul_dvd_of_dvd_of_dvd hc (pkB_dvd hq hN h hr hd) (pkB_dvd hs hN h' hr hd)) hQ
abbrev P25519:Nat:=57896044618658097711785492504343953926634992332820282019728792003956564819949
theorem prA:IsP 8574133:=pk2 991 103 (small 31 (by decide) (by decide) (by decide +kernel)) (small 10 (by decide) (by decide) (by decide +kernel)) (by decide +kernel) (by decide) (by decide +kernel) (by decide +kernel) (by decide +kernel) (by decide +kernel)
theorem prB:IsP 1919519569386763:=pk2 8574133 127 prA (small 11 (by decide) (by decide) (by decide +kernel)) (by decide +kernel) (by decide) (by decide +kernel) (by decide +kernel) (by decide +kernel) (by decide +kernel)
theorem prC:IsP 72106336199:=pk1 2773320623 (pk1 569003 (small 754 (by decide) (by decide) (by decide +kernel)) (by decide) (by decide +kernel) (by decide +kernel) (by decide +kernel)) (by decide) (by decide +kernel) (by decide +kernel) (by decide +kernel)
theorem prD:IsP 75445702479781427272750846543864801:=pk2 1919519569386763 72106336199 prB prC (by decide +kernel) (by decide) (by decide +kernel) (by decide +kernel) (by decide +kernel) (by decide +kernel)
theorem prE:IsP 31757755568855353:=pk2 430751 4153 (small 656 (by decide) (by decide) (by decide +kernel)) (small 64 (by decide) (by decide) (by decide +kernel)) (by decide +kernel) (by decide) (by decide +kernel) (by decide +kernel) (by decide +kernel) (by decide +kernel)
theorem prF:IsP 74058212732561358302231226437062788676166966415465897661863160754340907:=pk2 75445702479781427272750846543864801 31757755568855353 prD prE (by decide +kernel) (by decide) (by decide +kernel) (by decide +kernel) (by decide +kernel) (by decide +kernel)
theorem prP:IsP P25519:=pk1 74058212732561358302231226437062788676166966415465897661863160754340907 prF (by decide) (by decide +kernel) (by decide +kernel) (by decide +kernel)
end Go.Cu
namespace Go.Cu
abbrev F:=Fin P25519
instance:NeZero P25519:=⟨by decide⟩
theorem f_val_mul (a b:F):(a * b).val = a.val * b.val % P25519:=rfl
theorem f_val_add (a b:F):(a + b).val = (a.val + b.val) % P25519:=rfl
theorem f_zero {a b:F} (h:a * b = 0):a = 0 ∨ b = 0:=by
 have h1:a.val * b.val % P25519 = 0:=congrArg Fin.val h
 rcases prP.euclid (Nat.dvd_of_mod_eq_zero h1) with h2 | h2
 ·exact Or.inl (Fin.ext (by have:=Nat.eq_zero_of_dvd_of_lt h2 a.isLt;exact this))
 ·exact Or.inr (Fin.ext (by have:=Nat.eq_zero_of_dvd_of_lt h2 b.isLt;exact this))
theorem f_ne {a b:F} (ha:a ≠ 0) (hb:b ≠ 0):a * b ≠ 0:=fun h=>(f_zero h).elim ha hb
theorem f_can {a b c:F} (hc:c ≠ 0) (h:a * c = b * c):a = b:=by
 have h1:(a - b) * c = 0:=by grind
 rcases f_zero h1 with h2 | h2
 ·grind
 ·exact absurd h2 hc
def pw (a:F):Nat→F
 | 0=>1
 | n + 1=>pw a n * a
theorem pw_val (a:F):∀ n,(pw a n).val = a.val ^ n % P25519
 | 0=>rfl
 | n + 1=>by rw [Nat.pow_succ,← Nat.mod_mul_mod,← pw_val a n];rfl
theorem pw_add (a:F) (n:Nat):∀ m,pw a (n + m) = pw a n * pw a m
 | 0=>by show pw a n = pw a n * 1;grind
 | m + 1=>by show pw a (n + m) * a = pw a n * (pw a m * a);rw [pw_add a n m];grind
theorem pw_mul (a:F) (n:Nat):∀ m,pw a (n * m) = pw (pw a n) m
 | 0=>rfl
 | m + 1=>by rw [Nat.mul_succ,pw_add,pw_mul a n m];rfl
theorem mul_pw (a b:F):∀ n,pw (a * b) n = pw a n * pw b n
 | 0=>by show (1:F) = 1 * 1;grind
 | n + 1=>by show pw (a * b) n * (a * b) = pw a n * a * (pw b n * b);rw [mul_pw a b n];grind
theorem pw_two (a:F):pw a 2 = a * a:=by show 1 * a * a = a * a;grind
theorem f_fermat {a:F} (ha:a ≠ 0):pw a (P25519 - 1) = 1:=by
 apply Fin.ext
 rw [pw_val]
 exact fermat1 prP (fun h=>ha (Fin.ext (Nat.eq_zero_of_dvd_of_lt h a.isLt)))
theorem pw_fast (a:F) (n:Nat) (h:n < 2 ^ 256):(pw a n).val = mpow P25519 a.val 256 n:=by rw [pw_val,mpow_eq _ _ _ _ h]
@[irreducible] def inv (a:F):F:=pw a (P25519 - 2)
theorem inv_pw (a:F):inv a = pw a (P25519 - 2):=by unfold inv;rfl
theorem pw_succ (a:F) (n:Nat):pw a (n + 1) = pw a n * a:=rfl
theorem inv_mul {a:F} (ha:a ≠ 0):inv a * a = 1:=by
 have h:=f_fermat ha
 rw [show P25519 - 1 = (P25519 - 2) + 1 by decide,pw_succ] at h
 rw [inv_pw];exact h
theorem f_comm (a b:F):a * b = b * a:=by grind
theorem mul_inv {a:F} (ha:a ≠ 0):a * inv a = 1:=by rw [f_comm];exact inv_mul ha
theorem pw_zero {n:Nat} (h:n ≠ 0):pw 0 n = 0:=by
 obtain ⟨m,rfl⟩:∃ m,n = m + 1:=⟨n - 1,by omega⟩
 show pw 0 m * 0 = 0;grind
theorem inv_zero:inv 0 = 0:=by rw [inv_pw];exact pw_zero (by decide)
theorem inv_mul2 (a b:F):inv (a * b) = inv a * inv b:=by rw [inv_pw,inv_pw,inv_pw,mul_pw]
def dF:F:=37095705934669439343138083508754565189542113879843219016388785533085940283555
def iF:F:=19681161376707505956807079304988542015446066515923890162744021073123829784752
theorem d_eq:121666 * dF = 0 - 121665:=by decide +kernel
theorem i_eq:iF * iF = 0 - 1:=by decide +kernel
theorem two_ne:(2:F) ≠ 0:=by decide
theorem half_e:(P25519 - 1) / 2 < 2 ^ 256:=by decide
theorem sq_half {s:F} (hs:s ≠ 0):pw (s * s) ((P25519 - 1) / 2) = 1:=by
 rw [← pw_two,← pw_mul];exact f_fermat hs
theorem nonsq {s t:F} (h:s * s = dF * (t * t)):t = 0:=by
 apply Classical.byContradiction
 intro ht
 have h1:(s * inv t) * (s * inv t) = dF:=by have:=mul_inv ht;grind
 have hs:s * inv t ≠ 0:=by
  intro h0
  rw [h0] at h1
  exact absurd h1 (by decide)
 have h2:=sq_half hs
 rw [h1] at h2
 have h3:(pw dF ((P25519 - 1) / 2)).val = 1:=by rw [h2];rfl
 rw [pw_fast _ _ half_e] at h3
 exact absurd h3 (by decide +kernel)
end Go.Cu
