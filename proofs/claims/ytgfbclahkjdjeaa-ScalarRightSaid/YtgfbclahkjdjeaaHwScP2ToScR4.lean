/- What the functions of the program compute. No condition. -/
import Derived.Test.YtgfbclahkjdjeaaHwSc5ToScR3
import Derived.Shelf.Abstract
set_option linter.unusedSimpArgs false
set_option linter.unusedVariables false
namespace Go.Proofs.Ytgfbclahkjdjeaa
open Go Go.Sx

/-! Numbers by digits: plain. -/

def nv (f : Nat → Nat) (B : Nat) : Nat → Nat
  | 0 => 0
  | n + 1 => nv f B n + f n * B ^ n
theorem nv_lt {f : Nat → Nat} {B : Nat} (hB : 0 < B) : ∀ {n : Nat}, (∀ i, i < n → f i < B) → nv f B n < B ^ n
  | 0, _ => by simp [nv]
  | n + 1, h => by
    have ih := nv_lt hB (n := n) fun i hi => h i (by omega)
    have h1 := h n (by omega)
    have h2 : f n * B ^ n ≤ (B - 1) * B ^ n := Nat.mul_le_mul_right _ (by omega)
    simp only [nv]
    rw [Nat.pow_succ, Nat.mul_comm (B ^ n) B]
    have h3 : (B - 1) * B ^ n + B ^ n = B * B ^ n := by
      rw [show (B - 1) * B ^ n + B ^ n = (B - 1 + 1) * B ^ n by rw [Nat.add_mul, Nat.one_mul], show B - 1 + 1 = B by omega]
    omega
theorem nv_div {f : Nat → Nat} {B : Nat} (hB : 0 < B) {q : Nat} : ∀ {n : Nat}, (∀ i, i < n → f i < B) → q < n → nv f B n / B ^ q % B = f q
  | 0, _, h => absurd h (Nat.not_lt_zero _)
  | n + 1, h, hq => by
    have hp : 0 < B ^ q := Nat.pow_pos hB
    simp only [nv]
    by_cases hqn : q = n
    · subst hqn
      rw [Nat.add_mul_div_right _ _ hp, Nat.div_eq_of_lt (nv_lt hB fun i hi => h i (by omega)), Nat.zero_add, Nat.mod_eq_of_lt (h q (by omega))]
    · have ih := nv_div hB (q := q) (n := n) (fun i hi => h i (by omega)) (by omega)
      have e : f n * B ^ n = B * (f n * B ^ (n - q - 1)) * B ^ q := by
        rw [show n = n - q - 1 + 1 + q by omega, Nat.pow_add, Nat.pow_succ, show n - q - 1 + 1 + q - q - 1 = n - q - 1 by omega]
        rw [← Nat.mul_assoc, ← Nat.mul_assoc, Nat.mul_comm (f (n - q - 1 + 1 + q) * B ^ (n - q - 1)) B]
      rw [e, Nat.add_mul_div_right _ _ hp, Nat.add_mul_mod_self_left]
      exact ih
theorem nv_congr {f g : Nat → Nat} {B : Nat} : ∀ {n : Nat}, (∀ i, i < n → f i = g i) → nv f B n = nv g B n
  | 0, _ => rfl
  | n + 1, h => by simp only [nv]; rw [nv_congr fun i hi => h i (by omega), h n (by omega)]
/-- Out of its digits. -/
theorem nv_of_digits {f : Nat → Nat} {B W : Nat} (hB : 0 < B) : ∀ {n : Nat}, (∀ i, i < n → f i = W / B ^ i % B) → nv f B n = W % B ^ n
  | 0, _ => by simp [nv, Nat.mod_one]
  | n + 1, h => by
    simp only [nv]
    rw [nv_of_digits hB fun i hi => h i (by omega), h n (by omega)]
    rw [Nat.pow_succ, Nat.mod_mul, Nat.mul_comm (W / B ^ n % B)]

def by_ (b : List UInt8) (i : Nat) : Nat := (b.getD i 0).toNat
def wd_ (l : List UInt64) (i : Nat) : Nat := (l.getD i 0).toNat
def bv (b : List UInt8) (n : Nat) : Nat := nv (by_ b) 256 n
def wv (l : List UInt64) (n : Nat) : Nat := nv (wd_ l) 18446744073709551616 n
theorem by_lt (b : List UInt8) (i : Nat) : by_ b i < 256 := UInt8.toNat_lt _
theorem wd_lt (l : List UInt64) (i : Nat) : wd_ l i < 18446744073709551616 := UInt64.toNat_lt _
theorem bv_lt (b : List UInt8) (n : Nat) : bv b n < 256 ^ n := nv_lt (by decide) fun i _ => by_lt b i
theorem wv_lt (l : List UInt64) (n : Nat) : wv l n < 18446744073709551616 ^ n := nv_lt (by decide) fun i _ => wd_lt l i
theorem bv_digit (b : List UInt8) {n q : Nat} (h : q < n) : bv b n / 256 ^ q % 256 = by_ b q := nv_div (by decide) (fun i _ => by_lt b i) h
theorem wv_digit (l : List UInt64) {n q : Nat} (h : q < n) : wv l n / 18446744073709551616 ^ q % 18446744073709551616 = wd_ l q := nv_div (by decide) (fun i _ => wd_lt l i) h

/-- Bytes are one list if their digits are. -/
theorem bytes_ext {a b : List UInt8} {n : Nat} (ha : a.length = n) (hb : b.length = n) (h : ∀ i, i < n → by_ a i = by_ b i) : a = b := by
  apply List.ext_getElem (by omega)
  intro i h1 h2
  have := h i (by omega)
  unfold by_ at this
  rw [List.getD_eq_getElem?_getD, List.getD_eq_getElem?_getD, List.getElem?_eq_getElem h1, List.getElem?_eq_getElem h2] at this
  exact UInt8.toNat_inj.1 this

/-! The difference of words. -/

theorem sub_val (x y c : UInt64) (hc : c.toNat ≤ 1) : (subS x y c).toNat + y.toNat + c.toNat = x.toNat + (subC x y c).toNat * 18446744073709551616 := by
  have hx := x.toNat_lt
  have hy := y.toNat_lt
  unfold subS subC
  rw [UInt64.toNat_ofNat']
  split
  · show _ = x.toNat + 1 * 18446744073709551616
    rw [Nat.mod_eq_of_lt (by omega)]
    omega
  · show _ = x.toNat + 0 * 18446744073709551616
    rw [show x.toNat + 18446744073709551616 - y.toNat - c.toNat = (x.toNat - y.toNat - c.toNat) + 18446744073709551616 by omega, show (2 : Nat) ^ 64 = 18446744073709551616 by decide, Nat.add_mod_right, Nat.mod_eq_of_lt (by omega)]
    omega
theorem lessS_old (a b : List UInt64) : ∀ i j, i ≤ j → (lessS a b i).1.getD j 0 = a.getD j 0
  | 0, _, _ => rfl
  | i + 1, j, h => by simp only [lessS]; rw [getD_set_other (by omega), lessS_old a b i j (by omega)]
theorem wv_set_ge {l : List UInt64} {i n : Nat} {x : UInt64} (h : n ≤ i) : wv (l.set i x) n = wv l n :=
  nv_congr fun j hj => by unfold wd_; rw [getD_set_other (by omega)]
theorem lessS_val {a b : List UInt64} (ha : a.length = 4) : ∀ i, i ≤ 4 → wv (lessS a b i).1 i + wv b i = wv a i + (lessS a b i).2.toNat * 18446744073709551616 ^ i
  | 0, _ => by
    show 0 + 0 = 0 + (0 : UInt64).toNat * _
    simp
  | i + 1, hi => by
    have ih := lessS_val (b := b) ha i (by omega)
    have ho := lessS_old a b i i (Nat.le_refl _)
    have hl := lessS_length (b := b) ha i
    have hs := sub_val ((lessS a b i).1.getD i 0) (b.getD i 0) (lessS a b i).2 (lessS_le a b i)
    have e1 : wv (lessS a b (i + 1)).1 (i + 1) = wv (lessS a b i).1 i + (subS ((lessS a b i).1.getD i 0) (b.getD i 0) (lessS a b i).2).toNat * 18446744073709551616 ^ i := by
      show nv _ _ (i + 1) = _
      simp only [nv]
      congr 1
      · exact wv_set_ge (Nat.le_refl _)
      · congr 1
        show ((lessS a b i).1.set i _ |>.getD i 0).toNat = _
        rw [getD_set_self (by omega)]
    have e2 : (lessS a b (i + 1)).2 = subC ((lessS a b i).1.getD i 0) (b.getD i 0) (lessS a b i).2 := rfl
    rw [e1, e2]
    rw [ho] at hs ⊢
    show _ + nv (wd_ b) _ (i + 1) = nv (wd_ a) _ (i + 1) + _
    simp only [nv]
    have eb : nv (wd_ b) 18446744073709551616 i = wv b i := rfl
    have ea : nv (wd_ a) 18446744073709551616 i = wv a i := rfl
    have da : wd_ a i = (a.getD i 0).toNat := rfl
    have db : wd_ b i = (b.getD i 0).toNat := rfl
    rw [eb, ea, da, db, Nat.pow_succ]
    generalize (18446744073709551616 : Nat) ^ i = p at *
    generalize (subS (a.getD i 0) (b.getD i 0) (lessS a b i).2).toNat = s at *
    generalize (subC (a.getD i 0) (b.getD i 0) (lessS a b i).2).toNat = d at *
    generalize (lessS a b i).2.toNat = c at *
    generalize (a.getD i 0).toNat = x at *
    generalize (b.getD i 0).toNat = y at *
    have h5 : (s + y + c) * p = (x + d * 18446744073709551616) * p := by rw [hs]
    rw [Nat.add_mul, Nat.add_mul, Nat.add_mul] at h5
    have h6 : d * (p * 18446744073709551616) = d * 18446744073709551616 * p := by rw [Nat.mul_comm p, Nat.mul_assoc]
    omega

def Ln : Nat := 7237005577332262213973186563042994240857116359379907606001950938285454250989
theorem ord_val : wv ordL 4 = Ln := by decide +kernel
theorem less_yes {a : List UInt64} (ha : a.length = 4) : (lessS a ordL 4).2 = 1 ↔ wv a 4 < Ln := by
  have hv := lessS_val (b := ordL) ha 4 (Nat.le_refl _)
  have h1 := wv_lt (lessS a ordL 4).1 4
  have h2 := wv_lt a 4
  have hc := lessS_le a ordL 4
  rw [ord_val] at hv
  have hL : Ln < 18446744073709551616 ^ 4 := by decide
  constructor
  · intro h
    rw [h, show (1 : UInt64).toNat = 1 from rfl, Nat.one_mul] at hv
    omega
  · intro h
    have : (lessS a ordL 4).2.toNat = 1 := by
      rcases Nat.eq_zero_or_pos (lessS a ordL 4).2.toNat with h3 | h3
      · rw [h3, Nat.zero_mul] at hv; omega
      · omega
    exact UInt64.toNat_inj.1 this
theorem less_no {a : List UInt64} (ha : a.length = 4) (h : ¬ wv a 4 < Ln) : wv (lessS a ordL 4).1 4 = wv a 4 - Ln := by
  have hv := lessS_val (b := ordL) ha 4 (Nat.le_refl _)
  have hn : ¬ (lessS a ordL 4).2 = 1 := fun h1 => h ((less_yes ha).1 h1)
  have hc := lessS_le a ordL 4
  have h0 : (lessS a ordL 4).2.toNat = 0 := by
    rcases Nat.eq_zero_or_pos (lessS a ordL 4).2.toNat with h3 | h3
    · exact h3
    · exact absurd (UInt64.toNat_inj.1 (by rw [show (1 : UInt64).toNat = 1 from rfl]; omega)) hn
  rw [h0, Nat.zero_mul, ord_val] at hv
  omega

end Go.Proofs.Ytgfbclahkjdjeaa

namespace Go.Proofs.Ytgfbclahkjdjeaa
open Go Go.Sx

set_option maxRecDepth 100000 in
theorem fn21 (n : Nat) (b : List UInt8) : Sx.Fn Γ.P 21 [.slx 1000 0 0 n] [(1000, .mem false 0 [(n, .a8 b)])]
    (fun v M => v = .fn 26 [(1001, 0)] ∧ M = [(1000, .mem false 0 [(n, .a8 b)]), (1001, .mem true 0 [(1, .slx 1000 0 0 n)])]) := by
  refine fn_of (Γ := Γ) (fn := Try.f21) rfl rfl rfl rfl ?_
  repeat (refine Side.intro (by repeat' (first | (show AllP _; first | exact trivial | refine AllP.app ?_ ?_ | refine AllP.appd ?_ ?_ | refine AllP.cons ?_ ?_) | with_reducible rfl | with_reducible assumption | omega | (simp only [rng, Ix.val, addQ_eq, addI, sz5, sz22, sz33, sz34, sz35] <;> omega) | (simp only [rng, Ix.val, Int.toNat_natCast, mulE_eq, addQ_eq, addI, Option.getD_none, Option.getD_some, List.length_take, List.length_drop, List.length_append, List.length_set, List.length_replicate, sz5, sz22, sz33, sz34, sz35, *] <;> omega) | (simp only [Ix.val]; with_reducible assumption) | exact UInt8.toNat_lt _ | (apply Eq.trans; (with_reducible assumption); exact rfl) | exact rfl | exact fun _ _ => rfl)) ?_)
  refine Ret.intro (.fn 26 [(1001, 0)]) [(1000, .mem false 0 [(n, .a8 b)]), (1001, .mem true 0 [(1, .slx 1000 0 0 n)])] [(1001, (1, 0, none))] rfl trivial ⟨rfl, rfl⟩ rfl trivial rfl ?_ rfl
  repeat' (first | (show AllP _; first | exact trivial | refine AllP.app ?_ ?_ | refine AllP.appd ?_ ?_ | refine AllP.cons ?_ ?_) | with_reducible rfl | with_reducible assumption | omega | (simp only [rng, Ix.val, addQ_eq, addI, sz5, sz22, sz33, sz34, sz35] <;> omega) | (simp only [rng, Ix.val, Int.toNat_natCast, mulE_eq, addQ_eq, addI, Option.getD_none, Option.getD_some, List.length_take, List.length_drop, List.length_append, List.length_set, List.length_replicate, sz5, sz22, sz33, sz34, sz35, *] <;> omega) | (simp only [Ix.val]; with_reducible assumption) | exact UInt8.toNat_lt _ | (apply Eq.trans; (with_reducible assumption); exact rfl) | exact rfl | exact fun _ _ => rfl)

/-- A name that stays where it is stands for the same. -/
theorem rel_ptr_anch {ρ ρ' : Env} {a f : Nat} {v : Value} (h : RelT ρ (.ptr a f none) v) (hd : ρ'.dom a) (hp : ρ'.pos a = ρ.pos a) : RelT ρ' (.ptr a f none) v := by
  obtain ⟨_, h2⟩ := h
  refine ⟨hd, ?_⟩
  rw [h2]
  unfold Env.addr
  rw [hp]

noncomputable def rbody : Code :=
  match Try.f15.body with
  | some (.seq _ (.seq _ (.seq (.seq _ (.block _ (.rangeFunc _ _ _ (.block _ c)))) _))) => c
  | _ => .skip

theorem round_at (b : List UInt8) (n : Nat) (r : List UInt64) (hr : r.length = 4) (x : UInt64) :
    exec Γ [] [1000, 2, 3, 1001] rbody [(2, .ptr 2 0 none), (3, .ptr 3 0 none), (4, .u64 x)] (mI b n r) (fun e T M => e = .normal ∧ Le [1000, 2, 3, 1001] [] (mI b n (stW r x)) T M) := by
  obtain ⟨c, hc, hx⟩ := round_exec b n r hr x (Le [1000, 2, 3, 1001] [] (mI b n (stW r x))) (fun _ _ h => h)
  have : c = rbody := hc
  rw [← this]
  exact hx

set_option maxRecDepth 100000 in
set_option maxHeartbeats 1000000 in
theorem fn15 (b : List UInt8) (n : Nat) (hb : b.length = n) (hmax : n ≤ 1000000) : Sx.Fn Γ.P 15 [.slx 1000 0 0 n] [(1000, .mem false 0 [(n, .a8 b)])]
    (fun v M => v = .a64 (mdL (bitsTo b n (8 * n))) ∧ M = [(1000, .mem false 0 [(n, .a8 b)])]) := by
  intro ρ xs w hM hargs
  have hlen := RelL_length hargs
  refine (callsIn_wide (n := 5)).1 (callsIn_of_wp_marks (fn := Try.f15) rfl rfl trivial ?_ rfl)
  have start : Conc 47 ρ (paramsFrom 0 [.slx 1000 0 0 n]) [(1000, .mem false 0 [(n, .a8 b)])] { tmps := xs.toArray ++ Array.replicate (47 - xs.toArray.size) undef, defers := [] } w := conc_start hM hargs (by rw [hlen]; exact (by decide : 1 ≤ 47))
  have hA : Anch [1000] ρ ρ := ⟨fun k hk => by
    obtain rfl : k = 1000 := by simpa using hk
    exact ⟨hM.mod 1000 _ rfl, rfl⟩, fun _ _ _ h => h⟩
  refine wpIn_seq (region_le (Kn := [1000]) (ρA := ρ) [(0, .slx 1000 0 0 n), (2, .ptr 2 0 none)] [(1000, .mem false 0 [(n, .a8 b)]), (2, .mem true 0 [(4, .a64 (List.replicate 4 0))])] rfl ?_ start hA ?_)
  · repeat (refine Side.intro (by repeat' (first | (show AllP _; first | exact trivial | refine AllP.app ?_ ?_ | refine AllP.appd ?_ ?_ | refine AllP.cons ?_ ?_) | with_reducible rfl | with_reducible assumption | omega | (simp only [rng, Ix.val, addQ_eq, addI, sz5, sz22, sz33, sz34, sz35] <;> omega) | (simp only [rng, Ix.val, Int.toNat_natCast, mulE_eq, addQ_eq, addI, Option.getD_none, Option.getD_some, List.length_take, List.length_drop, List.length_append, List.length_set, List.length_replicate, sz5, sz22, sz33, sz34, sz35, *] <;> omega) | (simp only [Ix.val]; with_reducible assumption) | exact UInt8.toNat_lt _ | (apply Eq.trans; (with_reducible assumption); exact rfl) | exact rfl | exact fun _ _ => rfl)) ?_)
    refine Le.intro [] rfl ?_ rfl ?_ rfl
    · repeat' (first | (show AllP _; first | exact trivial | refine AllP.app ?_ ?_ | refine AllP.appd ?_ ?_ | refine AllP.cons ?_ ?_) | with_reducible rfl | with_reducible assumption | omega | (simp only [rng, Ix.val, addQ_eq, addI, sz5, sz22, sz33, sz34, sz35] <;> omega) | (simp only [rng, Ix.val, Int.toNat_natCast, mulE_eq, addQ_eq, addI, Option.getD_none, Option.getD_some, List.length_take, List.length_drop, List.length_append, List.length_set, List.length_replicate, sz5, sz22, sz33, sz34, sz35, *] <;> omega) | (simp only [Ix.val]; with_reducible assumption) | exact UInt8.toNat_lt _ | (apply Eq.trans; (with_reducible assumption); exact rfl) | exact rfl | exact fun _ _ => rfl)
    · repeat' (first | (show AllP _; first | exact trivial | refine AllP.app ?_ ?_ | refine AllP.appd ?_ ?_ | refine AllP.cons ?_ ?_) | with_reducible rfl | with_reducible assumption | omega | (simp only [rng, Ix.val, addQ_eq, addI, sz5, sz22, sz33, sz34, sz35] <;> omega) | (simp only [rng, Ix.val, Int.toNat_natCast, mulE_eq, addQ_eq, addI, Option.getD_none, Option.getD_some, List.length_take, List.length_drop, List.length_append, List.length_set, List.length_replicate, sz5, sz22, sz33, sz34, sz35, *] <;> omega) | (simp only [Ix.val]; with_reducible assumption) | exact UInt8.toNat_lt _ | (apply Eq.trans; (with_reducible assumption); exact rfl) | exact rfl | exact fun _ _ => rfl)
  intro ρ1 a1 w1 hc1 ha1 hs1
  show (Code.seq _ _).wpIn _ _ _ _ _ _
  refine wpIn_seq (region_le (Kn := [1000]) (ρA := ρ) [(0, .slx 1000 0 0 n), (2, .ptr 2 0 none), (3, .ptr 3 0 none)] [(1000, .mem false 0 [(n, .a8 b)]), (2, .mem true 0 [(4, .a64 (List.replicate 4 0))]), (3, .mem true 0 [(4, .a64 (List.replicate 4 0))])] rfl ?_ hc1 ha1 ?_)
  · repeat (refine Side.intro (by repeat' (first | (show AllP _; first | exact trivial | refine AllP.app ?_ ?_ | refine AllP.appd ?_ ?_ | refine AllP.cons ?_ ?_) | with_reducible rfl | with_reducible assumption | omega | (simp only [rng, Ix.val, addQ_eq, addI, sz5, sz22, sz33, sz34, sz35] <;> omega) | (simp only [rng, Ix.val, Int.toNat_natCast, mulE_eq, addQ_eq, addI, Option.getD_none, Option.getD_some, List.length_take, List.length_drop, List.length_append, List.length_set, List.length_replicate, sz5, sz22, sz33, sz34, sz35, *] <;> omega) | (simp only [Ix.val]; with_reducible assumption) | exact UInt8.toNat_lt _ | (apply Eq.trans; (with_reducible assumption); exact rfl) | exact rfl | exact fun _ _ => rfl)) ?_)
    refine Le.intro [] rfl ?_ rfl ?_ rfl
    · repeat' (first | (show AllP _; first | exact trivial | refine AllP.app ?_ ?_ | refine AllP.appd ?_ ?_ | refine AllP.cons ?_ ?_) | with_reducible rfl | with_reducible assumption | omega | (simp only [rng, Ix.val, addQ_eq, addI, sz5, sz22, sz33, sz34, sz35] <;> omega) | (simp only [rng, Ix.val, Int.toNat_natCast, mulE_eq, addQ_eq, addI, Option.getD_none, Option.getD_some, List.length_take, List.length_drop, List.length_append, List.length_set, List.length_replicate, sz5, sz22, sz33, sz34, sz35, *] <;> omega) | (simp only [Ix.val]; with_reducible assumption) | exact UInt8.toNat_lt _ | (apply Eq.trans; (with_reducible assumption); exact rfl) | exact rfl | exact fun _ _ => rfl)
    · repeat' (first | (show AllP _; first | exact trivial | refine AllP.app ?_ ?_ | refine AllP.appd ?_ ?_ | refine AllP.cons ?_ ?_) | with_reducible rfl | with_reducible assumption | omega | (simp only [rng, Ix.val, addQ_eq, addI, sz5, sz22, sz33, sz34, sz35] <;> omega) | (simp only [rng, Ix.val, Int.toNat_natCast, mulE_eq, addQ_eq, addI, Option.getD_none, Option.getD_some, List.length_take, List.length_drop, List.length_append, List.length_set, List.length_replicate, sz5, sz22, sz33, sz34, sz35, *] <;> omega) | (simp only [Ix.val]; with_reducible assumption) | exact UInt8.toNat_lt _ | (apply Eq.trans; (with_reducible assumption); exact rfl) | exact rfl | exact fun _ _ => rfl)
  intro ρ2 a2 w2 hc2 ha2 hs2
  show (Code.seq _ _).wpIn _ _ _ _ _ _
  refine wpIn_seq (wpIn_seq (region_le (Kn := [1000]) (ρA := ρ) [(2, .ptr 2 0 none), (3, .ptr 3 0 none), (8, .fn 26 [(1001, 0)])] (mI b n (mdL [])) rfl ?_ hc2 ha2 ?_))
  · refine Call.intro (fn21 n b) [(1000, (1000, 0, none)), (1001, (1001, 0, none))] rfl (by repeat' (first | (show AllP _; first | exact trivial | refine AllP.app ?_ ?_ | refine AllP.appd ?_ ?_ | refine AllP.cons ?_ ?_) | with_reducible rfl | with_reducible assumption | omega | (simp only [rng, Ix.val, addQ_eq, addI, sz5, sz22, sz33, sz34, sz35] <;> omega) | (simp only [rng, Ix.val, Int.toNat_natCast, mulE_eq, addQ_eq, addI, Option.getD_none, Option.getD_some, List.length_take, List.length_drop, List.length_append, List.length_set, List.length_replicate, sz5, sz22, sz33, sz34, sz35, *] <;> omega) | (simp only [Ix.val]; with_reducible assumption) | exact UInt8.toNat_lt _ | (apply Eq.trans; (with_reducible assumption); exact rfl) | exact rfl | exact fun _ _ => rfl)) rfl (by repeat' (first | (show AllP _; first | exact trivial | refine AllP.app ?_ ?_ | refine AllP.appd ?_ ?_ | refine AllP.cons ?_ ?_) | with_reducible rfl | with_reducible assumption | omega | (simp only [rng, Ix.val, addQ_eq, addI, sz5, sz22, sz33, sz34, sz35] <;> omega) | (simp only [rng, Ix.val, Int.toNat_natCast, mulE_eq, addQ_eq, addI, Option.getD_none, Option.getD_some, List.length_take, List.length_drop, List.length_append, List.length_set, List.length_replicate, sz5, sz22, sz33, sz34, sz35, *] <;> omega) | (simp only [Ix.val]; with_reducible assumption) | exact UInt8.toNat_lt _ | (apply Eq.trans; (with_reducible assumption); exact rfl) | exact rfl | exact fun _ _ => rfl)) rfl ?_
    rintro v M' ⟨rfl, rfl⟩
    repeat (refine Side.intro (by repeat' (first | (show AllP _; first | exact trivial | refine AllP.app ?_ ?_ | refine AllP.appd ?_ ?_ | refine AllP.cons ?_ ?_) | with_reducible rfl | with_reducible assumption | omega | (simp only [rng, Ix.val, addQ_eq, addI, sz5, sz22, sz33, sz34, sz35] <;> omega) | (simp only [rng, Ix.val, Int.toNat_natCast, mulE_eq, addQ_eq, addI, Option.getD_none, Option.getD_some, List.length_take, List.length_drop, List.length_append, List.length_set, List.length_replicate, sz5, sz22, sz33, sz34, sz35, *] <;> omega) | (simp only [Ix.val]; with_reducible assumption) | exact UInt8.toNat_lt _ | (apply Eq.trans; (with_reducible assumption); exact rfl) | exact rfl | exact fun _ _ => rfl)) ?_)
    have hz : mdL [] = List.replicate 4 0 := rfl
    unfold mI
    refine Le.intro [] rfl ?_ rfl ?_ rfl
    · repeat' (first | (show AllP _; first | exact trivial | refine AllP.app ?_ ?_ | refine AllP.appd ?_ ?_ | refine AllP.cons ?_ ?_) | with_reducible rfl | with_reducible assumption | omega | (simp only [rng, Ix.val, addQ_eq, addI, sz5, sz22, sz33, sz34, sz35] <;> omega) | (simp only [rng, Ix.val, Int.toNat_natCast, mulE_eq, addQ_eq, addI, Option.getD_none, Option.getD_some, List.length_take, List.length_drop, List.length_append, List.length_set, List.length_replicate, sz5, sz22, sz33, sz34, sz35, *] <;> omega) | (simp only [Ix.val]; with_reducible assumption) | exact UInt8.toNat_lt _ | (apply Eq.trans; (with_reducible assumption); exact rfl) | exact rfl | exact fun _ _ => rfl)
    · repeat' (first | (show AllP _; first | exact trivial | refine AllP.app ?_ ?_ | refine AllP.appd ?_ ?_ | refine AllP.cons ?_ ?_) | with_reducible rfl | with_reducible assumption | omega | (simp only [rng, Ix.val, addQ_eq, addI, sz5, sz22, sz33, sz34, sz35] <;> omega) | (simp only [rng, Ix.val, Int.toNat_natCast, mulE_eq, addQ_eq, addI, Option.getD_none, Option.getD_some, List.length_take, List.length_drop, List.length_append, List.length_set, List.length_replicate, sz5, sz22, sz33, sz34, sz35, *] <;> omega) | (simp only [Ix.val]; with_reducible assumption) | exact UInt8.toNat_lt _ | (apply Eq.trans; (with_reducible assumption); exact rfl) | exact rfl | exact fun _ _ => rfl)
  intro ρ3 a3 w3 hc3 ha3 hs3
  have hst : Step ρ [(1000, .mem false 0 [(n, .a8 b)])] ρ3 (mI b n (mdL [])) w w3 := hs1.trans (hs2.trans hs3)
  clear hs1 hs2 hs3 hc1 hc2 ha1 ha2 start
  show (Code.block 0 _).wpIn _ _ _ _ _ _
  refine wpIn_block ?_
  -- what the iterator reads
  have hsat1 := hc3.sat 1001 (.mem false 0 [(1, .slx 1000 0 0 n)]) rfl
  obtain ⟨cs1, ⟨k1, k2, rfl, kl, ⟨xv, ⟨hd0, cc, xa, hnc, rfl, hxa⟩, rfl⟩, rfl⟩, hz1, hcell1, _⟩ := hsat1
  have hsat0 := hc3.sat 1000 (.mem false 0 [(n, .a8 b)]) rfl
  obtain ⟨cs0, ⟨m1, m2, rfl, ml, rfl, rfl⟩, hz0, hcell0, _⟩ := hsat0
  have hreads : Reads (ρ3.pos 1001).1 ((ρ3.pos 1001).2 + (0 + 0)) (ρ3.pos 1000).1 ((ρ3.pos 1000).2 + (0 + 0)) n b xa cc w3 := by
    refine ⟨hcell1 0 _ rfl, fun j hj => ?_⟩
    have := hcell0 j (w8 (b.getD j 0)) (by
      rw [List.append_nil, List.getElem?_map, List.getElem?_eq_getElem (by omega), List.getD_eq_getElem?_getD, List.getElem?_eq_getElem (by omega)]
      rfl)
    exact this
  have hg : a3.eval (.tmp 8) = .func (.func 26) #[] #[.pointer (some ⟨(ρ3.pos 1001).1, (ρ3.pos 1001).2 + (0 + 0), none⟩)] := by
    have h8 : RelT ρ3 (.fn 26 [(1001, 0)]) (a3.eval (.tmp 8)) := ev_rel hc3 (.tmp 8)
    exact h8.2
  have hA3 : Anch [1000, 2, 3, 1001] ρ3 ρ3 := by
    refine ⟨fun k hk => ⟨?_, rfl⟩, fun _ _ _ h => h⟩
    simp only [List.mem_cons, List.not_mem_nil, or_false] at hk
    rcases hk with rfl | rfl | rfl | rfl
    · exact hc3.mod 1000 _ rfl
    · exact hc3.mod 2 _ rfl
    · exact hc3.mod 3 _ rfl
    · exact hc3.mod 1001 _ rfl
  have slot : ∀ {ρi : Env}, Anch [1000, 2, 3, 1001] ρ3 ρi → ∀ d, RelT ρi (getT [(2, .ptr 2 0 none), (3, .ptr 3 0 none)] d) (a3.tmps.getD d undef) := by
    intro ρi hai d
    by_cases h2 : d = 2
    · subst h2
      exact rel_ptr_anch (hc3.tm 2) (hai.to 2 (by simp)).1 (hai.to 2 (by simp)).2
    · by_cases h3 : d = 3
      · subst h3
        exact rel_ptr_anch (hc3.tm 3) (hai.to 3 (by simp)).1 (hai.to 3 (by simp)).2
      · rw [getT_cons_ne h2, getT_cons_ne h3]; exact RelT_of_Rel trivial
  refine wpIn_rangeFunc_ownF rfl (by decide) (gf := 26) hg trivial (Go.Proofs.enters_of (fn := Try.f26) rfl (by kernel_rfl) rfl)
    (down_stops hb hmax hnc (fun h => hxa h) hreads) (fun h k p o v hp hv => k p o v hp (h p o v hp hv))
    (fun W l o o' _ hl hcn _ k q v _ hv => ?kb) (Go.RowKit.Below.refl _ _) (fun _ => rfl)
    (fun pre W => ∃ ρi, ConcM ρi (mI b n (mdL pre)) W ∧ Anch [1000, 2, 3, 1001] ρ3 ρi ∧ Step ρ [(1000, .mem false 0 [(n, .a8 b)])] ρi (mI b n (mdL pre)) w W)
    (fun _ _ _ => False) ?own (fun _ _ _ _ _ h _ _ => h) ⟨ρ3, hc3.toConcM, hA3, hst⟩
    (fun y => (({ tmps := a3.tmps, defers := [] } : Act).put (some 9) (w64 y)).put (some 4) (w64 y)) ?assign ?body ?done ?stop
  case kb =>
    exact cell_kept hv (grownBy_putObj' W l o') (fun r e => by cases e; exact ⟨o, hl, hcn⟩)
  case own =>
    rintro pre W W' row ⟨ρi, h1, h2, h3⟩ hgr hrow
    exact ⟨ρi, h1.turned hgr (fun r e => (hrow r e).2), h2, h3.turned hgr (fun r e => Nat.le_trans hst.size (hrow r e).1)⟩
  case stop =>
    intro D c pre W _ _ h
    exact h.elim
  case assign =>
    intro l y W K hK
    have e0 : ((#[9] : Array Tmp).zip #[w64 y]).foldl (fun t (p, v) => t.setIfInBounds p v) a3.tmps = a3.tmps.setIfInBounds 9 (w64 y) := by simp
    have e9 : (({ tmps := a3.tmps.setIfInBounds 9 (w64 y), defers := [] } : Act)).eval (.tmp 9) = w64 y := by
      have h47 : (9 : Nat) < a3.tmps.size := by rw [hc3.sz]; decide
      simp [Act.eval, h47]
    show (Code.region _ _ _).wpIn _ _ _ _ { tmps := ((#[9] : Array Tmp).zip #[w64 y]).foldl (fun t (p, v) => t.setIfInBounds p v) a3.tmps, defers := [] } W
    rw [e0]
    refine wpIn_region_lit (wpListIn_plain rfl fun K' hK' => ⟨fun _ _ => trivial, ?_⟩)
    rw [Oper.semAt_eq _ _ _ (by intro c h; cases h)]
    refine hK' _ _ ?_
    show K _ W
    rw [e9]
    exact hK
  case body =>
    rintro l pre y W ⟨ρi, hci, hai, hsi⟩ _
    have hN : Conc 47 ρi [(2, .ptr 2 0 none), (3, .ptr 3 0 none)] (mI b n (mdL pre)) { tmps := a3.tmps, defers := [] } W := ⟨hci, hc3.sz, rfl, slot hai⟩
    have hN2 : Conc 47 ρi [(2, .ptr 2 0 none), (3, .ptr 3 0 none), (4, .u64 y)] (mI b n (mdL pre)) ((({ tmps := a3.tmps, defers := [] } : Act).put (some 9) (w64 y)).put (some 4) (w64 y)) W := by
      have h1 := (hN.put (d := 9) (by decide) (v := .u64 y) (x := w64 y) (RelT_of_Rel rfl)).put (d := 4) (by decide) (v := .u64 y) (x := w64 y) (RelT_of_Rel rfl)
      exact h1.sub (sub3 rfl rfl rfl)
    have hAi : Anch [1000, 2, 3, 1001] ρi ρi := ⟨fun k hk => ⟨(hai.to k hk).1, rfl⟩, fun _ _ _ h => h⟩
    have hx := exec_in (l := l) (n := 5 - 1 - 1) (N := 47) (ρA := ρi) (c := rbody) rfl rfl (fun e T M h => h.1) (round_at b n (mdL pre) (mdL_length pre) y) hN2 hAi
    show (Code.block 1 rbody).wpIn _ _ _ _ _ _
    refine wpIn_block (wpIn_mono hx ?_)
    rintro e a' W' ⟨rfl, ρ', T', M', ⟨_, hle⟩, g1, g2, g3⟩
    obtain ⟨ρ'', l1, l2, l3⟩ := hle.sound g1 g2
    have hs := g3.trans l3
    rw [← mdL_snoc] at l1 hs
    have nown : ∀ {k ls} (_ : getM (mI b n (mdL pre)) k = some (.mem false 0 ls)) (_ : k ∈ [1000, 2, 3, 1001]) {p o}, foot (ρ3.pos k) (.mem false 0 ls) p o → ¬ Owns ρi (mI b n (mdL pre)) p o := by
      rintro k ls hk hmem p o hf ⟨a0, e0, ha0, hown, hf0⟩
      rw [← (hai.to k hmem).2] at hf
      by_cases hak : a0 = k
      · subst hak
        rw [hk] at ha0
        cases ha0
        cases hown
      · exact hci.sep a0 k e0 _ ha0 hk hak hown p o hf0 hf
    refine ⟨hs.others hci, ?_, ρ'', l1.toConcM, hai.trans' l2, hsi.trans hs⟩
    rintro k o v (⟨rfl, rfl⟩ | ⟨rfl, ho1, ho2⟩) hv
    · have hno := nown (k := 1001) rfl (by simp) (p := (ρ3.pos 1001).1) (o := (ρ3.pos 1001).2 + (0 + 0)) ⟨rfl, by omega, by simp only [sizeL, Bool.false_eq_true, if_false]; omega⟩
      rw [(hs.cell _ _ (lt_of_cell hv) hno).1]; exact hv
    · have hno := nown (k := 1000) rfl (by simp) (p := (ρ3.pos 1000).1) (o := o) ⟨rfl, by omega, by simp only [sizeL, Bool.false_eq_true, if_false]; omega⟩
      rw [(hs.cell _ _ (lt_of_cell hv) hno).1]; exact hv
  case done =>
    rintro D ys W hD rfl ⟨ρi, hci, hai, hsi⟩ hK
    have hN : Conc 47 ρi [(2, .ptr 2 0 none), (3, .ptr 3 0 none)] (mI b n (mdL (bitsTo b n (8 * n)))) { tmps := a3.tmps, defers := [] } W := ⟨hci, hc3.sz, rfl, slot hai⟩
    have hri : Anch [1000] ρ ρi := ⟨fun k hk => by
      obtain rfl : k = 1000 := by simpa using hk
      exact ⟨(hai.to 1000 (by simp)).1, (hai.to 1000 (by simp)).2.trans (ha3.to 1000 (by simp)).2⟩, fun b o ls h => hai.im _ _ _ (ha3.im _ _ _ h)⟩
    have hdef : a3.defers = [] := hc3.defers
    show (Code.seq _ _).wpIn _ _ _ _ _ _
    refine wpIn_seq ?_
    have hml := mdL_length (bitsTo b n (8 * n))
    generalize mdL (bitsTo b n (8 * n)) = R at *
    rw [hdef]
    have h8 := fun (ops : List Oper) (hall : dstOK 47 ops = true) (hrun : runOps Γ ops ops [(2, .ptr 2 0 none), (3, .ptr 3 0 none)] (mI b n R) [] (fun T M => Ret Γ [1000] [ResultVar.cell 2 35] T M (fun v M => v = .a64 R ∧ M = [(1000, .mem false 0 [(n, .a8 b)])]))) =>
      runOps_sound (Γ := Γ) (N := 47) (all := ops) hall (Q := fun e a' w' => e = .normal ∧ ∃ ρ' T' M', Ret Γ [1000] [ResultVar.cell 2 35] T' M' (fun v M => v = .a64 R ∧ M = [(1000, .mem false 0 [(n, .a8 b)])]) ∧ Conc 47 ρ' T' M' a' w' ∧ ρi.le ρ' ∧ Step ρi (mI b n R) ρ' M' W w')
        ops (fun o h => h) hN hrun (fun a' w' ⟨ρ', T', M', h1, h2, h3, h4⟩ => ⟨rfl, ρ', T', M', h1, h3, h2, h4⟩)
    refine wpIn_mono (wpIn_region_lit (wpList_marks (a := { tmps := a3.tmps, defers := [] }) (Q := fun e a' w' => e = .normal ∧ ∃ ρ' T' M', Ret Γ [1000] [ResultVar.cell 2 35] T' M' (fun v M => v = .a64 R ∧ M = [(1000, .mem false 0 [(n, .a8 b)])]) ∧ Conc 47 ρ' T' M' a' w' ∧ ρi.le ρ' ∧ Step ρi (mI b n R) ρ' M' W w') (D := [{ target := .collected D, args := #[] }]) (fun c a w h => by cases h.1) (fun ⟨a, w, h⟩ => by cases h.1) ?_ (h8 _ rfl ?_))) ?_
    · intro o ho
      simp only [List.mem_cons, List.not_mem_nil, or_false] at ho
      rcases ho with rfl | rfl
      · exact load_nd rfl
      · exact store_nd rfl
    · unfold mI
      repeat (refine Side.intro (by repeat' (first | (show AllP _; first | exact trivial | refine AllP.app ?_ ?_ | refine AllP.appd ?_ ?_ | refine AllP.cons ?_ ?_) | with_reducible rfl | with_reducible assumption | omega | (simp only [rng, Ix.val, addQ_eq, addI, sz5, sz22, sz33, sz34, sz35] <;> omega) | (simp only [rng, Ix.val, Int.toNat_natCast, mulE_eq, addQ_eq, addI, Option.getD_none, Option.getD_some, List.length_take, List.length_drop, List.length_append, List.length_set, List.length_replicate, sz5, sz22, sz33, sz34, sz35, *] <;> omega) | (simp only [Ix.val]; with_reducible assumption) | exact UInt8.toNat_lt _ | (apply Eq.trans; (with_reducible assumption); exact rfl) | exact rfl | exact fun _ _ => rfl)) ?_)
      refine Ret.intro (.a64 R) [(1000, .mem false 0 [(n, .a8 b)])] [] rfl ?_ ⟨rfl, rfl⟩ rfl ?_ rfl ?_ rfl
      · repeat' (first | (show AllP _; first | exact trivial | refine AllP.app ?_ ?_ | refine AllP.appd ?_ ?_ | refine AllP.cons ?_ ?_) | with_reducible rfl | with_reducible assumption | omega | (simp only [rng, Ix.val, addQ_eq, addI, sz5, sz22, sz33, sz34, sz35] <;> omega) | (simp only [rng, Ix.val, Int.toNat_natCast, mulE_eq, addQ_eq, addI, Option.getD_none, Option.getD_some, List.length_take, List.length_drop, List.length_append, List.length_set, List.length_replicate, sz5, sz22, sz33, sz34, sz35, *] <;> omega) | (simp only [Ix.val]; with_reducible assumption) | exact UInt8.toNat_lt _ | (apply Eq.trans; (with_reducible assumption); exact rfl) | exact rfl | exact fun _ _ => rfl)
      · repeat' (first | (show AllP _; first | exact trivial | refine AllP.app ?_ ?_ | refine AllP.appd ?_ ?_ | refine AllP.cons ?_ ?_) | with_reducible rfl | with_reducible assumption | omega | (simp only [rng, Ix.val, addQ_eq, addI, sz5, sz22, sz33, sz34, sz35] <;> omega) | (simp only [rng, Ix.val, Int.toNat_natCast, mulE_eq, addQ_eq, addI, Option.getD_none, Option.getD_some, List.length_take, List.length_drop, List.length_append, List.length_set, List.length_replicate, sz5, sz22, sz33, sz34, sz35, *] <;> omega) | (simp only [Ix.val]; with_reducible assumption) | exact UInt8.toNat_lt _ | (apply Eq.trans; (with_reducible assumption); exact rfl) | exact rfl | exact fun _ _ => rfl)
      · repeat' (first | (show AllP _; first | exact trivial | refine AllP.app ?_ ?_ | refine AllP.appd ?_ ?_ | refine AllP.cons ?_ ?_) | with_reducible rfl | with_reducible assumption | omega | (simp only [rng, Ix.val, addQ_eq, addI, sz5, sz22, sz33, sz34, sz35] <;> omega) | (simp only [rng, Ix.val, Int.toNat_natCast, mulE_eq, addQ_eq, addI, Option.getD_none, Option.getD_some, List.length_take, List.length_drop, List.length_append, List.length_set, List.length_replicate, sz5, sz22, sz33, sz34, sz35, *] <;> omega) | (simp only [Ix.val]; with_reducible assumption) | exact UInt8.toNat_lt _ | (apply Eq.trans; (with_reducible assumption); exact rfl) | exact rfl | exact fun _ _ => rfl)
    rintro e a' w' ⟨a0, ⟨rfl, ρ', T', M', hret, hcc, hle, hss⟩, rfl⟩
    show (Code.ret).wpIn _ _ _ _ _ _
    refine wpIn_ret ?_
    have hK' : w'.heap[D]? = some (.deferred (some [])) := (hss.others hci).same D _ hK rfl
    have hgr : w'.grownBy (w'.putObj D (.deferred none)) (some D) := grownBy_putObj' _ _ _
    have hcc' : Conc 47 ρ' T' M' a0 (w'.putObj D (.deferred none)) := hcc.world (hcc.toConcM.turned hgr (fun r e => by cases e; exact ⟨_, hK', rfl⟩))
    have hanc : Anch [1000] ρ ρ' := hri.le hle
    obtain ⟨x, v, ρ5, M5, r1, r2, r3, r4, r5, r6⟩ := ret_sound hcc' hanc hret (fn := Try.f15) rfl
    refine ⟨by simp, Or.inl ⟨D, _, rfl, run_takeDeferred hK', ?_⟩⟩
    refine ⟨x, r1, v, x, ρ5, M5, rfl, r2, r3, ⟨fun k hk => ?_, r5.im⟩, r4, ?_⟩
    · obtain ⟨e, he⟩ := hM.dom k hk
      exact r5 k (keysM_mem he)
    · exact ((hsi.trans hss).turned hgr (fun r e => by cases e; exact Nat.le_trans hst.size hD)).trans r6

end Go.Proofs.Ytgfbclahkjdjeaa
