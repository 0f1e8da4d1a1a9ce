/- What the functions of the program compute. No condition. -/
import Derived.Test.YtgfbclahkjdjeaaHwSc4ToSc4
import Derived.Test.YtgfbclahkjdjeaaHwTabToScP1
import Derived.Test.YtgfbclahkjdjeaaHx7
set_option linter.unusedSimpArgs false
set_option linter.unusedVariables false
namespace Go.Proofs.Ytgfbclahkjdjeaa
open Go Go.Sx

/-! The reference: MulAdd. -/

theorem dv_set {l : List Int} {i : Nat} {x : Int} (hi : i < l.length) : ∀ {n : Nat}, i < n → dv (l.set i x) n = dv l n + (x - l.getD i 0) * 65536 ^ i
  | 0, h => absurd h (Nat.not_lt_zero _)
  | n + 1, h => by
    by_cases hn : i = n
    · subst hn
      rw [dv_set_last hi]
      simp only [dv]
      rw [Int.sub_mul]; omega
    · simp only [dv]
      rw [dv_set hi (n := n) (by omega), getD_set_other hn]
      omega

def zcS (z : List Int) : Nat → List Int
  | 0 => List.replicate 33 0
  | i + 1 => (zcS z i).set i (z.getD i 0)
theorem zcS_length (z : List Int) : ∀ i, (zcS z i).length = 33
  | 0 => List.length_replicate
  | i + 1 => by simp only [zcS, List.length_set, zcS_length z i]
theorem zcS_dig {z : List Int} (h : Dig z) : ∀ i, Dig (zcS z i)
  | 0 => Dig.rep 33
  | i + 1 => (zcS_dig h i).set (h i).1 (h i).2
theorem zcS_get (z : List Int) : ∀ i j, i ≤ 33 → (zcS z i).getD j 0 = if j < i then z.getD j 0 else 0
  | 0, j, _ => by
    rw [if_neg (by omega)]
    show (List.replicate 33 (0 : Int)).getD j 0 = 0
    rw [List.getD_eq_getElem?_getD, List.getElem?_replicate]; split <;> rfl
  | i + 1, j, h => by
    simp only [zcS]
    by_cases hj : i = j
    · subst hj
      rw [getD_set_self (by rw [zcS_length]; omega), if_pos (by omega)]
    · rw [getD_set_other hj, zcS_get z i j (by omega)]
      by_cases h1 : j < i
      · rw [if_pos h1, if_pos (by omega)]
      · rw [if_neg h1, if_neg (by omega)]
theorem zcS_val {z : List Int} : dv (zcS z 16) 33 = dv z 16 := by
  rw [dv_split (a := 16) (b := 33) (by omega) fun i h1 h2 => by rw [zcS_get z 16 i (by omega), if_neg (by omega)]]
  exact dv_congr fun i hi => by rw [zcS_get z 16 i (by omega), if_pos hi]

def mlP (x y : List Int) (i k : Nat) : Int := if k < 16 then x.getD i 0 * y.getD k 0 else 0
def mlS (x y d : List Int) (i : Nat) : Nat → List Int × Int
  | 0 => (d, 0)
  | k + 1 => ((mlS x y d i k).1.set (i + k) (((mlS x y d i k).2 + (mlS x y d i k).1.getD (i + k) 0 + mlP x y i k) % 65536), ((mlS x y d i k).2 + (mlS x y d i k).1.getD (i + k) 0 + mlP x y i k) / 65536)
theorem mlS_length (x y d : List Int) (i : Nat) : ∀ k, (mlS x y d i k).1.length = d.length
  | 0 => rfl
  | k + 1 => by simp only [mlS, List.length_set, mlS_length x y d i k]
theorem mul_bound {a b : Int} (a0 : 0 ≤ a) (a1 : a < 65536) (b0 : 0 ≤ b) (b1 : b < 65536) : 0 ≤ a * b ∧ a * b ≤ 4294836225 := by
  refine ⟨Int.mul_nonneg a0 b0, ?_⟩
  have h1 : a * b ≤ 65535 * b := Int.mul_le_mul_of_nonneg_right (by omega) b0
  omega
theorem mlP_bound {x y : List Int} (hx : Dig x) (hy : Dig y) (i k : Nat) : 0 ≤ mlP x y i k ∧ mlP x y i k ≤ 4294836225 := by
  unfold mlP
  split
  · exact mul_bound (hx i).1 (hx i).2 (hy k).1 (hy k).2
  · decide
theorem mlS_dig {x y d : List Int} (hx : Dig x) (hy : Dig y) (hd : Dig d) (i : Nat) : ∀ k, Dig (mlS x y d i k).1 ∧ 0 ≤ (mlS x y d i k).2 ∧ (mlS x y d i k).2 < 65536
  | 0 => ⟨hd, Int.le_refl _, by show (0 : Int) < 65536; decide⟩
  | k + 1 => by
    obtain ⟨h1, h2, h3⟩ := mlS_dig hx hy hd i k
    have h4 := h1 (i + k)
    have h5 := mlP_bound hx hy i k
    have e1 : (mlS x y d i (k + 1)).1 = (mlS x y d i k).1.set (i + k) (((mlS x y d i k).2 + (mlS x y d i k).1.getD (i + k) 0 + mlP x y i k) % 65536) := rfl
    have e2 : (mlS x y d i (k + 1)).2 = ((mlS x y d i k).2 + (mlS x y d i k).1.getD (i + k) 0 + mlP x y i k) / 65536 := rfl
    rw [e1, e2]
    exact ⟨h1.set (by omega) (by omega), by omega, by omega⟩
theorem mlS_val {x y d : List Int} (hl : d.length = 33) {i : Nat} (hi : i < 16) : ∀ k, k ≤ 17 → dv (mlS x y d i k).1 33 + (mlS x y d i k).2 * 65536 ^ (i + k) = dv d 33 + x.getD i 0 * dv y (min k 16) * 65536 ^ i
  | 0, _ => by
    show dv d 33 + 0 * 65536 ^ (i + 0) = dv d 33 + x.getD i 0 * 0 * 65536 ^ i
    rw [Int.mul_zero, Int.zero_mul, Int.zero_mul]
  | k + 1, hk => by
    have ih := mlS_val (x := x) (y := y) hl hi k (by omega)
    have e1 : (mlS x y d i (k + 1)).1 = (mlS x y d i k).1.set (i + k) (((mlS x y d i k).2 + (mlS x y d i k).1.getD (i + k) 0 + mlP x y i k) % 65536) := rfl
    have e2 : (mlS x y d i (k + 1)).2 = ((mlS x y d i k).2 + (mlS x y d i k).1.getD (i + k) 0 + mlP x y i k) / 65536 := rfl
    rw [e1, e2, dv_set (by rw [mlS_length]; omega) (by omega)]
    have es : ((mlS x y d i k).2 + (mlS x y d i k).1.getD (i + k) 0 + mlP x y i k) % 65536 + 65536 * (((mlS x y d i k).2 + (mlS x y d i k).1.getD (i + k) 0 + mlP x y i k) / 65536) = (mlS x y d i k).2 + (mlS x y d i k).1.getD (i + k) 0 + mlP x y i k := Int.emod_add_mul_ediv _ _
    generalize ((mlS x y d i k).2 + (mlS x y d i k).1.getD (i + k) 0 + mlP x y i k) % 65536 = m at *
    generalize ((mlS x y d i k).2 + (mlS x y d i k).1.getD (i + k) 0 + mlP x y i k) / 65536 = q at *
    have ep : mlP x y i k * 65536 ^ k + x.getD i 0 * dv y (min k 16) = x.getD i 0 * dv y (min (k + 1) 16) := by
      unfold mlP
      split
      · rw [show min k 16 = k by omega, show min (k + 1) 16 = k + 1 by omega]
        simp only [dv]
        rw [Int.mul_add, ← Int.mul_assoc, Int.add_comm]
      · rw [show min k 16 = 16 by omega, show min (k + 1) 16 = 16 by omega, Int.zero_mul, Int.zero_add]
    rw [← ep, Int.add_mul]
    rw [show i + (k + 1) = i + k + 1 by omega, Int.pow_succ]
    have e3 : mlP x y i k * 65536 ^ k * 65536 ^ i = mlP x y i k * 65536 ^ (i + k) := by rw [Int.mul_assoc, ← Int.pow_add, Nat.add_comm k i]
    rw [e3]
    generalize (65536 : Int) ^ (i + k) = p at *
    have e4 : m * p + q * (p * 65536) = (mlS x y d i k).2 * p + (mlS x y d i k).1.getD (i + k) 0 * p + mlP x y i k * p := by
      rw [← Int.add_mul, ← Int.add_mul, ← es, Int.add_mul, Int.mul_comm p, ← Int.mul_assoc, Int.mul_comm q]
    rw [Int.sub_mul]
    omega

def mrS (x y z : List Int) : Nat → List Int
  | 0 => zcS z 16
  | i + 1 => (mlS x y (mrS x y z i) i 17).1
theorem mrS_length (x y z : List Int) : ∀ i, (mrS x y z i).length = 33
  | 0 => zcS_length z 16
  | i + 1 => by simp only [mrS, mlS_length, mrS_length x y z i]
theorem mrS_dig {x y z : List Int} (hx : Dig x) (hy : Dig y) (hz : Dig z) : ∀ i, Dig (mrS x y z i)
  | 0 => zcS_dig hz 16
  | i + 1 => (mlS_dig hx hy (mrS_dig hx hy hz i) i 17).1
theorem mr_bound {X Y Z A : Int} (hX : X < A) (hX0 : 0 ≤ X) (hY : Y < 65536 ^ 16) (hY0 : 0 ≤ Y) (hZ : Z < 65536 ^ 16) : Z + X * Y < A * 65536 ^ 16 := by
  have h1 : X * Y ≤ X * (65536 ^ 16 - 1) := Int.mul_le_mul_of_nonneg_left (by omega) hX0
  have h2 : (X + 1) * (65536 ^ 16) ≤ A * 65536 ^ 16 := Int.mul_le_mul_of_nonneg_right (by omega) (by decide)
  rw [Int.mul_sub] at h1
  rw [Int.add_mul] at h2
  generalize (65536 : Int) ^ 16 = B at *
  omega
theorem mrS_val {x y z : List Int} (hx : Dig x) (hy : Dig y) (hz : Dig z) : ∀ i, i ≤ 16 → dv (mrS x y z i) 33 = dv z 16 + dv x i * dv y 16
  | 0, _ => by
    show dv (zcS z 16) 33 = dv z 16 + 0 * dv y 16
    rw [zcS_val, Int.zero_mul, Int.add_zero]
  | i + 1, hi => by
    have ih := mrS_val hx hy hz i (by omega)
    have hv := mlS_val (x := x) (y := y) (d := mrS x y z i) (mrS_length x y z i) (i := i) (by omega) 17 (Nat.le_refl _)
    obtain ⟨h1, h2, h3⟩ := mlS_dig hx hy (mrS_dig hx hy hz i) i 17
    have b := (dv_bound h1 33).1
    have ex : dv x (i + 1) = dv x i + x.getD i 0 * 65536 ^ i := rfl
    have bx := dv_bound hx (i + 1)
    have bd := mr_bound bx.2 bx.1 (dv_bound hy 16).2 (dv_bound hy 16).1 (dv_bound hz 16).2
    rw [show min 17 16 = 16 from rfl, ih] at hv
    have e5 : x.getD i 0 * dv y 16 * 65536 ^ i = x.getD i 0 * 65536 ^ i * dv y 16 := by rw [Int.mul_assoc, Int.mul_comm (dv y 16), ← Int.mul_assoc]
    rw [e5, Int.add_assoc, ← Int.add_mul, ← ex] at hv
    rw [← Int.pow_add, show i + 1 + 16 = i + 17 by omega] at bd
    have hp := pw_pos (i + 17)
    have hc : (mlS x y (mrS x y z i) i 17).2 = 0 := by
      rcases Int.lt_or_le 0 (mlS x y (mrS x y z i) i 17).2 with h4 | h4
      · have : 1 * 65536 ^ (i + 17) ≤ (mlS x y (mrS x y z i) i 17).2 * 65536 ^ (i + 17) := Int.mul_le_mul_of_nonneg_right (by omega) (by omega)
        omega
      · omega
    rw [hc, Int.zero_mul, Int.add_zero] at hv
    exact hv
theorem mlS_carry {x y z : List Int} (hx : Dig x) (hy : Dig y) (hz : Dig z) {i : Nat} (hi : i < 16) : (mlS x y (mrS x y z i) i 17).2 = 0 := by
  have h1 := mrS_val hx hy hz (i + 1) (by omega)
  have ih := mrS_val hx hy hz i (by omega)
  have hv := mlS_val (x := x) (y := y) (d := mrS x y z i) (mrS_length x y z i) (i := i) hi 17 (Nat.le_refl _)
  have ex : dv x (i + 1) = dv x i + x.getD i 0 * 65536 ^ i := rfl
  rw [show min 17 16 = 16 from rfl, ih] at hv
  have e5 : x.getD i 0 * dv y 16 * 65536 ^ i = x.getD i 0 * 65536 ^ i * dv y 16 := by rw [Int.mul_assoc, Int.mul_comm (dv y 16), ← Int.mul_assoc]
  rw [e5, Int.add_assoc, ← Int.add_mul, ← ex, ← h1] at hv
  have hv : dv (mrS x y z (i + 1)) 33 + (mlS x y (mrS x y z i) i 17).2 * 65536 ^ (i + 17) = dv (mrS x y z (i + 1)) 33 := hv
  have hp := pw_pos (i + 17)
  have h0 : (mlS x y (mrS x y z i) i 17).2 * 65536 ^ (i + 17) = 0 := by omega
  rcases Int.mul_eq_zero.1 h0 with h | h
  · exact h
  · omega

theorem tov_dv (d : List Int) (n : Nat) : ∀ k, k ≤ n → tov d n k * 65536 ^ (n - k) + dv d (n - k) = dv d n
  | 0, _ => by simp only [tov, Int.zero_mul, Int.zero_add, Nat.sub_zero]
  | k + 1, h => by
    have ih := tov_dv d n k (by omega)
    rw [show n - k = n - (k + 1) + 1 by omega] at ih
    rw [← ih]
    simp only [tov, dv]
    rw [show n - 1 - k = n - (k + 1) by omega, Int.pow_succ]
    generalize (65536 : Int) ^ (n - (k + 1)) = p
    rw [Int.add_mul]
    have : tov d n k * 65536 * p = tov d n k * (p * 65536) := by rw [Int.mul_assoc, Int.mul_comm 65536]
    omega
theorem moS_all {d : List Int} (h : Dig d) (n : Nat) : dv (moS d n n) 17 = dv d n % Lz := by
  have := tov_dv d n n (Nat.le_refl _)
  rw [Nat.sub_self, Int.pow_zero, Int.mul_one] at this
  rw [moS_val h n n, ← this]
  simp only [dv, Int.add_zero]

end Go.Proofs.Ytgfbclahkjdjeaa

namespace Go.Proofs.Ytgfbclahkjdjeaa
open Go Go.Sx

/-! The bits of bytes, the greatest first: the iterator. -/

def bitAt (b : List UInt8) (i : Nat) : UInt64 := shr64 (b.getD (i / 8) 0).toUInt64 (i % 8) &&& 1
def bitsTo (b : List UInt8) (n : Nat) : Nat → List UInt64
  | 0 => []
  | k + 1 => bitsTo b n k ++ [bitAt b (8 * n - 1 - k)]
theorem bitsTo_length (b : List UInt8) (n : Nat) : ∀ k, (bitsTo b n k).length = k
  | 0 => rfl
  | k + 1 => by simp only [bitsTo, List.length_append, bitsTo_length b n k, List.length_singleton]

/-- What the iterator reads: a slice in a cell, and its bytes. -/
structure Reads (b1 o1 b2 o2 n : Nat) (b : List UInt8) (x : Option Addr) (c : Nat) (W : World) : Prop where
  cell : W.cell? ⟨b1, o1, none⟩ = some (.slice x n c)
  bytes : ∀ j, j < n → W.cell? ⟨b2, o2 + j, none⟩ = some (w8 (b.getD j 0))

def inF (b1 o1 b2 o2 n k o : Nat) : Prop := (k = b1 ∧ o = o1) ∨ (k = b2 ∧ o2 ≤ o ∧ o < o2 + n)
def Kp (b1 o1 b2 o2 n : Nat) (A B : World) : Prop := ∀ k o v, inF b1 o1 b2 o2 n k o → A.cell? ⟨k, o, none⟩ = some v → B.cell? ⟨k, o, none⟩ = some v

section
variable {b1 o1 b2 o2 n : Nat} {b : List UInt8} {x : Option Addr} {c : Nat}

theorem Reads.kept {A B : World} (h : Reads b1 o1 b2 o2 n b x c A) (hk : Kp b1 o1 b2 o2 n A B) : Reads b1 o1 b2 o2 n b x c B :=
  ⟨hk _ _ _ (Or.inl ⟨rfl, rfl⟩) h.cell, fun j hj => hk _ _ _ (Or.inr ⟨rfl, by omega, by omega⟩) (h.bytes j hj)⟩

def envR (b1 o1 b2 o2 : Nat) : Env := ⟨fun a => a = 1 ∨ a = 2, fun a => if a = 1 then (b1, o1) else (b2, o2), fun _ _ _ => False⟩
def memR (n : Nat) (b : List UInt8) : Mm := [(1, .mem false 0 [(1, .slx 2 0 0 n)]), (2, .mem false 0 [(n, .a8 b)])]

theorem lt_of_cell {W : World} {k o : Nat} {v : Value} (h : W.cell? ⟨k, o, none⟩ = some v) : k < W.heap.size := by
  unfold World.cell? at h
  simp only at h
  cases hb : W.heap[k]? with
  | none => rw [hb] at h; cases h
  | some _ => exact (Array.getElem?_eq_some_iff.1 hb).1

theorem Reads.conc {W : World} (h : Reads b1 o1 b2 o2 n b x c W) (hb : b.length = n) (hnc : n ≤ c) (hx : c ≠ 0 → x = some ⟨b2, o2, none⟩) : ConcM (envR b1 o1 b2 o2) (memR n b) W := by
  have g1 : getM (memR n b) 1 = some (.mem false 0 [(1, .slx 2 0 0 n)]) := rfl
  have g2 : getM (memR n b) 2 = some (.mem false 0 [(n, .a8 b)]) := rfl
  have gx : ∀ {a e}, getM (memR n b) a = some e → (a = 1 ∧ e = .mem false 0 [(1, .slx 2 0 0 n)]) ∨ (a = 2 ∧ e = .mem false 0 [(n, .a8 b)]) := by
    intro a e he
    by_cases h1 : a = 1
    · subst h1; rw [g1] at he; exact Or.inl ⟨rfl, (Option.some.inj he).symm⟩
    · by_cases h2 : a = 2
      · subst h2; rw [g2] at he; exact Or.inr ⟨rfl, (Option.some.inj he).symm⟩
      · unfold memR at he
        rw [getM_cons_ne h1, getM_cons_ne h2] at he
        simp [getM] at he
  refine ⟨fun a ha => ?_, fun a e he => ?_, fun a e he => ?_, fun a a' e e' he he' hab ho => ?_, fun _ _ _ h => h.elim, fun k o hi => ?_⟩
  · rcases ha with rfl | rfl
    · exact ⟨_, g1⟩
    · exact ⟨_, g2⟩
  · rcases gx he with h | h
    · exact Or.inl h.1
    · exact Or.inr h.1
  · rcases gx he with ⟨rfl, rfl⟩ | ⟨rfl, rfl⟩
    · refine ⟨[.slice x n c], ⟨[.slice x n c], [], rfl, rfl, ⟨_, ⟨Or.inr rfl, c, x, hnc, rfl, fun hc => ?_⟩, rfl⟩, rfl⟩, ⟨fun _ => lt_of_cell h.cell, fun _ h => absurd rfl h⟩, fun j v hj => ?_, fun h => by cases h⟩
      · rw [hx hc]; rfl
      · cases j with
        | zero =>
          simp only [List.getElem?_cons_zero, Option.some.injEq] at hj
          rw [← hj]; exact h.cell
        | succ j => simp at hj
    · refine ⟨b.map w8, ⟨b.map w8, [], by simp, by simp [hb], rfl, rfl⟩, ⟨fun hn => ?_, fun _ h => absurd rfl h⟩, fun j v hj => ?_, fun h => by cases h⟩
      · have hn0 : 0 < n := by
          simp only [sizeL, Bool.false_eq_true, if_false, Nat.add_zero] at hn
          omega
        exact lt_of_cell (h.bytes 0 hn0)
      · have hj2 := (List.getElem?_eq_some_iff.1 hj).1
        rw [List.length_map, hb] at hj2
        have := h.bytes j hj2
        rw [List.getElem?_map, List.getElem?_eq_getElem (by omega)] at hj
        simp only [Option.map_some, Option.some.injEq] at hj
        rw [List.getD_eq_getElem?_getD, List.getElem?_eq_getElem (by omega), Option.getD_some, hj] at this
        exact this
  · rcases gx he with ⟨rfl, rfl⟩ | ⟨rfl, rfl⟩ <;> cases ho
  · obtain ⟨_, _, _, h1, _⟩ := hi
    exact h1.elim
end

end Go.Proofs.Ytgfbclahkjdjeaa

namespace Go.Proofs.Ytgfbclahkjdjeaa
open Go Go.Sx

theorem run_yieldOp {P : Program} {a : Act} {o : Oper} {W : World} {l : Nat} {t u : Operand} {x : Value} {ats : Array TypeId} {nx : Next} (ho : o.op = .call { callee := .value t, args := #[u], argTypes := ats }) (ht : a.eval t = .func (.yield l) #[] #[]) (hu : a.eval u = x)
    (hy : (Instr.yield l #[x]).run P W = .ok nx W) : (execOp a.eval o).run P W = .ok nx W := by
  have e1 : (#[u] : Array Operand).map a.eval = #[x] := by simp [hu]
  simp only [execOp, ho, resolve, ht, e1, Deferred.ofValue, Sem.run_bind, Sem.run_pure, Result.andThen_ok, invoke]
  simpa using hy

def env0 : Env := ⟨fun _ => False, fun _ => (0, 0), fun _ _ _ => False⟩
theorem env0_conc (w : World) : ConcM env0 [] w := by
  refine ⟨fun _ h => h.elim, fun a e h => by simp [getM] at h, fun a e h => by simp [getM] at h, fun a b e e' h => by simp [getM] at h, fun _ _ _ h => h.elim, fun k o h => ?_⟩
  obtain ⟨_, _, _, h1, _⟩ := h
  exact h1.elim

def mu3 (a : Act) (_ : World) : Nat :=
  match a.tmps.getD 3 undef with
  | .int _ z => (z + 1).toNat
  | _ => 0
theorem mu3_eq {N : Nat} {ρ : Env} {T : Tm} {M : Mm} {a : Act} {w : World} (hc : Conc N ρ T M a w) {z : Int} (h : getT T 3 = .i .i64 z) (w' : World) : mu3 a w' = (z + 1).toNat := by
  have h1 := hc.tm 3
  rw [h] at h1
  have h1 : a.tmps.getD 3 undef = .int .i64 z := h1
  unfold mu3
  rw [h1]

def dT (l : Nat) (z : Int) : Tm := [(0, .raw (.func (.yield l) #[] #[])), (1, .ptr 1 0 none), (3, .i .i64 z)]
theorem dT_of {l : Nat} {z : Int} {T : Tm} {N : Nat} {ρ : Env} {M : Mm} {a : Act} {w : World} (hc : Conc N ρ T M a w) (h0 : getT T 0 = .raw (.func (.yield l) #[] #[])) (h1 : getT T 1 = .ptr 1 0 none) (h3 : getT T 3 = .i .i64 z) : Conc N ρ (dT l z) M a w :=
  hc.sub (sub3 h0 h1 h3)

set_option maxRecDepth 100000 in
set_option maxHeartbeats 1000000 in
theorem down_stops {m b1 o1 b2 o2 n c : Nat} {b : List UInt8} {x : Option Addr} (hb : b.length = n) (hmax : n ≤ 1000000) (hnc : n ≤ c) (hx : c ≠ 0 → x = some ⟨b2, o2, none⟩) {w0 : World} (h0 : Reads b1 o1 b2 o2 n b x c w0) :
    SeqStopsK Fence.wide m Γ.P 26 #[.pointer (some ⟨b1, o1, none⟩)] (fun y : UInt64 => #[w64 y]) (Kp b1 o1 b2 o2 n) (fun xs => xs = bitsTo b n (8 * n)) (fun _ => True) (8 * n) w0 := by
  intro l J Jx W hW hJ hJx hY hJ0
  have hWr : Reads b1 o1 b2 o2 n b x c W := by
    have hk : ∀ {k o v}, w0.cell? ⟨k, o, none⟩ = some v → W.cell? ⟨k, o, none⟩ = some v := fun {k o v} h => by
      rw [World.cell?_of_block (hW.block k (lt_of_cell h))]; exact h
    exact ⟨hk h0.cell, fun j hj => hk (h0.bytes j hj)⟩
  rw [show (#[.func (.yield l) #[] #[]] ++ #[.pointer (some ⟨b1, o1, none⟩)] : Array Value) = [.func (.yield l) #[] #[], .pointer (some ⟨b1, o1, none⟩)].toArray by simp]
  refine callsIn_of_wp (fn := Try.f26) rfl rfl trivial ?_ rfl
  have hc0 := hWr.conc hb hnc hx
  have start : Conc 25 (envR b1 o1 b2 o2) (paramsFrom 0 [.raw (.func (.yield l) #[] #[]), .ptr 1 0 none]) (memR n b) { tmps := [.func (.yield l) #[] #[], .pointer (some ⟨b1, o1, none⟩)].toArray ++ Array.replicate (25 - [Value.func (.yield l) #[] #[], .pointer (some ⟨b1, o1, none⟩)].toArray.size) undef, defers := [] } W :=
    conc_start hc0 ⟨_, _, rfl, ⟨rfl, trivial⟩, _, _, rfl, ⟨Or.inl rfl, rfl⟩, rfl⟩ (by simp)
  refine wpIn_seq ?_
  refine wpIn_region_lit (pureOps_cut (Γ := Γ) (K := fun T => getT T 0 = .raw (.func (.yield l) #[] #[]) ∧ getT T 1 = .ptr 1 0 none ∧ getT T 3 = .i .i64 (8 * (n : Int) - 1)) (fun _ => trivial) 5 rfl ?_ start ?_)
  · repeat (refine Side.intro (by repeat' (first | (show AllP _; first | exact trivial | refine AllP.app ?_ ?_ | refine AllP.appd ?_ ?_ | refine AllP.cons ?_ ?_) | with_reducible rfl | with_reducible assumption | omega | (simp only [rng, Ix.val, addQ_eq, addI, sz5, sz22, sz33] <;> omega) | (simp only [rng, Ix.val, Int.toNat_natCast, mulE_eq, addQ_eq, addI, Option.getD_none, Option.getD_some, List.length_take, List.length_drop, List.length_append, List.length_set, List.length_replicate, sz5, sz22, sz33, *] <;> omega) | (simp only [Ix.val]; with_reducible assumption) | exact UInt8.toNat_lt _ | (apply Eq.trans; (with_reducible assumption); exact rfl) | exact rfl | exact fun _ _ => rfl)) ?_)
    exact ⟨rfl, rfl, rfl⟩
  rintro T1 a1 ⟨g0, g1, g3⟩ hc1
  show (Code.block 0 _).wpIn _ _ _ _ _ _
  refine wpIn_block ?_
  refine wpIn_loop (fun a W => ∃ k : Nat, k ≤ 8 * n ∧ Conc 25 (envR b1 o1 b2 o2) (dT l (8 * (n : Int) - 1 - k)) (memR n b) a W ∧ Reads b1 o1 b2 o2 n b x c W ∧ J (bitsTo b n k) W) mu3 ?_ ?_
  · exact ⟨0, Nat.zero_le _, dT_of hc1 g0 g1 (by rw [g3]; congr 1; omega), hWr, hJ0⟩
  · rintro a W1 ⟨k, hk, hc, hr, hj⟩
    have hmu := mu3_eq hc (z := 8 * (n : Int) - 1 - k) rfl W1
    refine wpIn_seq (wpIn_seq ?_)
    refine wpIn_region_lit (pureOps_cut (Γ := Γ) (K := fun T => getT T 0 = .raw (.func (.yield l) #[] #[]) ∧ getT T 1 = .ptr 1 0 none ∧ getT T 3 = .i .i64 (8 * (n : Int) - 1 - k) ∧ getT T 9 = .bool (0 ≤ 8 * (n : Int) - 1 - k)) (fun _ => trivial) 2 rfl ?_ hc ?_)
    · repeat (refine Side.intro (by repeat' (first | (show AllP _; first | exact trivial | refine AllP.app ?_ ?_ | refine AllP.appd ?_ ?_ | refine AllP.cons ?_ ?_) | with_reducible rfl | with_reducible assumption | omega | (simp only [rng, Ix.val, addQ_eq, addI, sz5, sz22, sz33] <;> omega) | (simp only [rng, Ix.val, Int.toNat_natCast, mulE_eq, addQ_eq, addI, Option.getD_none, Option.getD_some, List.length_take, List.length_drop, List.length_append, List.length_set, List.length_replicate, sz5, sz22, sz33, *] <;> omega) | (simp only [Ix.val]; with_reducible assumption) | exact UInt8.toNat_lt _ | (apply Eq.trans; (with_reducible assumption); exact rfl) | exact rfl | exact fun _ _ => rfl)) ?_)
      exact ⟨rfl, rfl, rfl, rfl⟩
    rintro T2 a2 ⟨g0, g1, g3, g9⟩ hc2
    show (Code.cond _ _ _).wpIn _ _ _ _ _ _
    have h9 := ev_rel hc2 (.tmp 9)
    have h9 : RelT (envR b1 o1 b2 o2) (getT T2 9) (a2.eval (.tmp 9)) := h9
    rw [g9] at h9
    obtain ⟨bb, hbb, hbi⟩ := h9
    by_cases hlt : k < 8 * n
    · have : bb = true := hbi.2 (by omega)
      subst this
      refine wpIn_cond_true hbb (wpIn_skip ?_)
      show (Code.seq _ _).wpIn _ _ _ _ _ _
      obtain ⟨fn, tmps, assign, body, hy, hR⟩ := hY (bitsTo b n k) (bitAt b (8 * n - 1 - k)) W1 hj (by rw [bitsTo_length]; exact hlt)
      have e1 : (8 * (n : Int) - 1 - k).toNat = 8 * n - 1 - k := by omega
      refine wpIn_seq (wpIn_block (wpIn_seq ?_))
      refine wpIn_region_lit (pureOps_cut (Γ := Γ) (K := fun T => getT T 0 = .raw (.func (.yield l) #[] #[]) ∧ getT T 1 = .ptr 1 0 none ∧ getT T 3 = .i .i64 (8 * (n : Int) - 1 - k) ∧ getT T 12 = .raw (.func (.yield l) #[] #[]) ∧ getT T 22 = .u64 (bitAt b (8 * n - 1 - k))) (fun _ => trivial) 11 rfl ?_ (dT_of hc2 g0 g1 g3) ?_)
      · have e2 : ((8 * (n : Int) - 1 - k) / 8).toNat = (8 * n - 1 - k) / 8 := by omega
        have e3 : ((8 * (n : Int) - 1 - k) % 8).toNat = (8 * n - 1 - k) % 8 := by omega
        repeat (refine Side.intro (by repeat' (first | (show AllP _; first | exact trivial | refine AllP.app ?_ ?_ | refine AllP.appd ?_ ?_ | refine AllP.cons ?_ ?_) | with_reducible rfl | with_reducible assumption | omega | (simp only [Nat.zero_add, e2, e3, rng, Ix.val, addQ_eq, addI, sz5, sz22, sz33] <;> omega) | (simp only [Nat.zero_add, e2, e3, rng, Ix.val, Int.toNat_natCast, mulE_eq, addQ_eq, addI, Option.getD_none, Option.getD_some, List.length_take, List.length_drop, List.length_append, List.length_set, List.length_replicate, sz5, sz22, sz33, *] <;> omega) | (simp only [Ix.val]; with_reducible assumption) | exact UInt8.toNat_lt _ | (apply Eq.trans; (with_reducible assumption); exact rfl) | exact rfl | exact fun _ _ => rfl)) ?_)
        refine ⟨rfl, rfl, rfl, rfl, ?_⟩
        show SV.u64 (shr64 (b.getD (addQ 0 ((8 * (n : Int) - 1 - k) / 8).toNat) 0).toUInt64 ((8 * (n : Int) - 1 - k) % 8).toNat &&& UInt64.ofNat 1) = SV.u64 (bitAt b (8 * n - 1 - k))
        rw [addQ_eq, Nat.zero_add, e2, e3]
        rfl
      rintro T3 a3 ⟨g0, g1, g3, g12, g22⟩ hc3
      have h12 := ev_rel hc3 (.tmp 12)
      have h12 : RelT (envR b1 o1 b2 o2) (getT T3 12) (a3.eval (.tmp 12)) := h12
      rw [g12] at h12
      have h22 := ev_rel hc3 (.tmp 22)
      have h22 : RelT (envR b1 o1 b2 o2) (getT T3 22) (a3.eval (.tmp 22)) := h22
      rw [g22] at h22
      refine wpListIn_plain rfl fun K hK => ?_
      refine ⟨fun _ _ => trivial, ?_⟩
      rw [Oper.semAt_eq _ _ _ (by intro c h; cases h), run_yieldOp (l := l) rfl h12.1 h22 hy]
      refine ⟨fun h => by simp [Fence.wide] at h, hR.mono ?_⟩
      rintro e W' (⟨rfl, hJ', hk'⟩ | ⟨rfl, hJx'⟩)
      · -- the round goes on
        have hr' := hr.kept hk'
        have hc4 : Conc 25 (envR b1 o1 b2 o2) ((23, .tt) :: T3) (memR n b) (a3.put (some 23) (.bool true)) W' := (hc3.world (hr'.conc hb hnc hx)).put (by decide) (RelT_of_Rel rfl)
        refine hK _ _ (pureOps_cut (Γ := Γ) (K := fun T => getT T 0 = .raw (.func (.yield l) #[] #[]) ∧ getT T 1 = .ptr 1 0 none ∧ getT T 3 = .i .i64 (8 * (n : Int) - 1 - k) ∧ getT T 24 = .ff) (fun _ => trivial) 1 rfl ?_ hc4 ?_)
        · refine ⟨?_, ?_, ?_, rfl⟩
          · exact g0
          · exact g1
          · exact g3
        rintro T5 a5 ⟨g0, g1, g3, g24⟩ hc5
        show (Code.cond _ _ _).wpIn _ _ _ _ _ _
        have h24 := ev_rel hc5 (.tmp 24)
        have h24 : RelT (envR b1 o1 b2 o2) (getT T5 24) (a5.eval (.tmp 24)) := h24
        rw [g24] at h24
        refine wpIn_cond_false h24 (wpIn_skip ?_)
        show (Code.region _ _ _).wpIn _ _ _ _ _ _
        refine wpIn_region_lit (pureOps_cut (Γ := Γ) (K := fun T => getT T 0 = .raw (.func (.yield l) #[] #[]) ∧ getT T 1 = .ptr 1 0 none ∧ getT T 3 = .i .i64 (8 * (n : Int) - 1 - (k + 1 : Nat))) (fun _ => trivial) 3 rfl ?_ (dT_of hc5 g0 g1 g3) ?_)
        · repeat (refine Side.intro (by repeat' (first | (show AllP _; first | exact trivial | refine AllP.app ?_ ?_ | refine AllP.appd ?_ ?_ | refine AllP.cons ?_ ?_) | with_reducible rfl | with_reducible assumption | omega | (simp only [rng, Ix.val, addQ_eq, addI, sz5, sz22, sz33] <;> omega) | (simp only [rng, Ix.val, Int.toNat_natCast, mulE_eq, addQ_eq, addI, Option.getD_none, Option.getD_some, List.length_take, List.length_drop, List.length_append, List.length_set, List.length_replicate, sz5, sz22, sz33, *] <;> omega) | (simp only [Ix.val]; with_reducible assumption) | exact UInt8.toNat_lt _ | (apply Eq.trans; (with_reducible assumption); exact rfl) | exact rfl | exact fun _ _ => rfl)) ?_)
          refine ⟨rfl, rfl, ?_⟩
          show SV.i .i64 (8 * (n : Int) - 1 - k - 1) = _
          congr 1; omega
        rintro T6 a6 ⟨g0, g1, g3⟩ hc6
        have hmu6 := mu3_eq hc6 g3 W'
        refine ⟨⟨k + 1, by omega, dT_of hc6 g0 g1 g3, hr', hJ'⟩, ?_⟩
        rw [hmu, hmu6]
        omega
      · -- it is told to stop
        have hcx := hc3.put (d := 23) (by decide) (v := .ff) (x := .bool false) (RelT_of_Rel rfl)
        have hcy : Conc 25 env0 [(23, .ff)] [] (a3.put (some 23) (.bool false)) W' := by
          refine ⟨env0_conc W', hcx.sz, hcx.defers, fun d => ?_⟩
          by_cases hd : d = 23
          · subst hd
            have := hcx.tm 23
            rw [getT_cons_self] at this
            rw [getT_cons_self]
            exact this
          · rw [getT_cons_ne hd]; exact RelT_of_Rel trivial
        refine hK _ _ (pureOps_cut (Γ := Γ) (K := fun T => getT T 24 = .tt) (fun _ => trivial) 1 rfl ?_ hcy ?_)
        · exact rfl
        rintro T5 a5 g24 hc5
        show (Code.cond _ _ _).wpIn _ _ _ _ _ _
        have h24 := ev_rel hc5 (.tmp 24)
        have h24 : RelT env0 (getT T5 24) (a5.eval (.tmp 24)) := h24
        rw [g24] at h24
        refine wpIn_cond_true h24 (wpIn_ret ?_)
        exact ⟨hc5.defers, _, results_none rfl _ _ _, ⟨_, rfl⟩, Or.inr ⟨_, trivial, hJx'⟩⟩
    · have : bb = false := by
        cases bb with
        | false => rfl
        | true => have := hbi.1 rfl; omega
      subst this
      obtain rfl : k = 8 * n := by omega
      refine wpIn_cond_false hbb (wpIn_exit ?_)
      exact ⟨hc2.defers, _, results_none rfl _ _ _, ⟨_, rfl⟩, Or.inl ⟨_, rfl, hj⟩⟩

end Go.Proofs.Ytgfbclahkjdjeaa

namespace Go.Proofs.Ytgfbclahkjdjeaa
open Go Go.Sx

/-! The number modulo the order, bit by bit. -/

def shW (r : List UInt64) (x : UInt64) : List UInt64 :=
  [shl64 (r.getD 0 0) 1 ||| x, shl64 (r.getD 1 0) 1 ||| shr64 (r.getD 0 0) 63, shl64 (r.getD 2 0) 1 ||| shr64 (r.getD 1 0) 63, shl64 (r.getD 3 0) 1 ||| shr64 (r.getD 2 0) 63]
def stW (r : List UInt64) (x : UInt64) : List UInt64 := if (lessS (shW r x) ordL 4).2 = 1 then shW r x else (lessS (shW r x) ordL 4).1
def mdL (l : List UInt64) : List UInt64 := l.foldl stW (List.replicate 4 0)
theorem mdL_snoc (l : List UInt64) (x : UInt64) : mdL (l ++ [x]) = stW (mdL l) x := by unfold mdL; rw [List.foldl_append]; simp only [List.foldl_cons, List.foldl_nil]
theorem stW_length (r : List UInt64) (x : UInt64) : (stW r x).length = 4 := by
  unfold stW; split
  · rfl
  · exact lessS_length rfl 4
theorem mdL_length (l : List UInt64) : (mdL l).length = 4 := by
  rcases List.eq_nil_or_concat l with rfl | ⟨l', x, rfl⟩
  · rfl
  · rw [List.concat_eq_append, mdL_snoc]; exact stW_length _ _

def mI (b : List UInt8) (n : Nat) (r : List UInt64) : Mm := [(1000, .mem false 0 [(n, .a8 b)]), (2, .mem true 0 [(4, .a64 (List.replicate 4 0))]), (3, .mem true 0 [(4, .a64 r)]), (1001, .mem false 0 [(1, .slx 1000 0 0 n)])]

/-- One round. -/
theorem round_exec (b : List UInt8) (n : Nat) (r : List UInt64) (hr : r.length = 4) (x : UInt64) (K : Tm → Mm → Prop)
    (hK : ∀ T M, Le [1000, 2, 3, 1001] [] (mI b n (stW r x)) T M → K T M) :
    ∃ c, c = (match Try.f15.body with
      | some (.seq _ (.seq _ (.seq (.seq _ (.block _ (.rangeFunc _ _ _ (.block _ c)))) _))) => c
      | _ => .skip) ∧ exec Γ [] [1000, 2, 3, 1001] c [(2, .ptr 2 0 none), (3, .ptr 3 0 none), (4, .u64 x)] (mI b n r) (fun e T M => e = .normal ∧ K T M) := by
  refine ⟨_, rfl, ?_⟩
  have hO := fn23
  have hL := fn22 (shW r x) ordL rfl rfl
  have hll := lessS_length (a := shW r x) (b := ordL) rfl 4
  have hs : stW r x = if (lessS (shW r x) ordL 4).2 = 1 then shW r x else (lessS (shW r x) ordL 4).1 := rfl
  have hsl : (shW r x).length = 4 := rfl
  have hsh : shW r x = [shl64 (r.getD 0 0) 1 ||| x, shl64 (r.getD 1 0) 1 ||| shr64 (r.getD 0 0) 63, shl64 (r.getD 2 0) 1 ||| shr64 (r.getD 1 0) 63, shl64 (r.getD 3 0) 1 ||| shr64 (r.getD 2 0) 63] := rfl
  generalize lessS (shW r x) ordL 4 = L at hL hll hs
  unfold mI at hK ⊢
  repeat (refine Side.intro (by repeat' (first | (show AllP _; first | exact trivial | refine AllP.app ?_ ?_ | refine AllP.appd ?_ ?_ | refine AllP.cons ?_ ?_) | with_reducible rfl | with_reducible assumption | omega | (simp only [rng, Ix.val, addQ_eq, addI, sz5, sz22, sz33, sz34, sz35] <;> omega) | (simp only [rng, Ix.val, Int.toNat_natCast, mulE_eq, addQ_eq, addI, Option.getD_none, Option.getD_some, List.length_take, List.length_drop, List.length_append, List.length_set, List.length_replicate, sz5, sz22, sz33, sz34, sz35, *] <;> omega) | (simp only [Ix.val]; with_reducible assumption) | exact UInt8.toNat_lt _ | (apply Eq.trans; (with_reducible assumption); exact rfl) | exact rfl | exact fun _ _ => rfl)) ?_)
  refine Draw.intro [[], [], [0, 1], [0, 1, 2], [0, 1, 2, 3], [0, 1, 2, 3], [], [0, 1, 2, 3, 4, 6], [0, 1, 2, 3, 4, 5, 6, 7]] [0, 6, 1, 2, 3, 4, 5, 7, 8] (by kernel_rfl) ?_
  repeat (refine Side.intro (by repeat' (first | (show AllP _; first | exact trivial | refine AllP.app ?_ ?_ | refine AllP.appd ?_ ?_ | refine AllP.cons ?_ ?_) | with_reducible rfl | with_reducible assumption | omega | (simp only [rng, Ix.val, addQ_eq, addI, sz5, sz22, sz33, sz34, sz35] <;> omega) | (simp only [rng, Ix.val, Int.toNat_natCast, mulE_eq, addQ_eq, addI, Option.getD_none, Option.getD_some, List.length_take, List.length_drop, List.length_append, List.length_set, List.length_replicate, sz5, sz22, sz33, sz34, sz35, *] <;> omega) | (simp only [Ix.val]; with_reducible assumption) | exact UInt8.toNat_lt _ | (apply Eq.trans; (with_reducible assumption); exact rfl) | exact rfl | exact fun _ _ => rfl)) ?_)
  refine Call.pure hO rfl trivial ?_
  intro v hv
  subst hv
  refine Grow.intro [] rfl rfl ?_
  repeat (refine Side.intro (by repeat' (first | (show AllP _; first | exact trivial | refine AllP.app ?_ ?_ | refine AllP.appd ?_ ?_ | refine AllP.cons ?_ ?_) | with_reducible rfl | with_reducible assumption | omega | (simp only [rng, Ix.val, addQ_eq, addI, sz5, sz22, sz33, sz34, sz35] <;> omega) | (simp only [rng, Ix.val, Int.toNat_natCast, mulE_eq, addQ_eq, addI, Option.getD_none, Option.getD_some, List.length_take, List.length_drop, List.length_append, List.length_set, List.length_replicate, sz5, sz22, sz33, sz34, sz35, *] <;> omega) | (simp only [Ix.val]; with_reducible assumption) | exact UInt8.toNat_lt _ | (apply Eq.trans; (with_reducible assumption); exact rfl) | exact rfl | exact fun _ _ => rfl)) ?_)
  refine Call.pure hL rfl ?_ ?_
  · repeat' (first | (show AllP _; first | exact trivial | refine AllP.app ?_ ?_ | refine AllP.appd ?_ ?_ | refine AllP.cons ?_ ?_) | with_reducible rfl | with_reducible assumption | omega | (simp only [rng, Ix.val, addQ_eq, addI, sz5, sz22, sz33, sz34, sz35] <;> omega) | (simp only [rng, Ix.val, Int.toNat_natCast, mulE_eq, addQ_eq, addI, Option.getD_none, Option.getD_some, List.length_take, List.length_drop, List.length_append, List.length_set, List.length_replicate, sz5, sz22, sz33, sz34, sz35, *] <;> omega) | (simp only [Ix.val]; with_reducible assumption) | exact UInt8.toNat_lt _ | (apply Eq.trans; (with_reducible assumption); exact rfl) | exact rfl | exact fun _ _ => rfl)
  intro v hv
  subst hv
  refine Grow.intro [] rfl rfl ?_
  repeat (refine Side.intro (by repeat' (first | (show AllP _; first | exact trivial | refine AllP.app ?_ ?_ | refine AllP.appd ?_ ?_ | refine AllP.cons ?_ ?_) | with_reducible rfl | with_reducible assumption | omega | (simp only [rng, Ix.val, addQ_eq, addI, sz5, sz22, sz33, sz34, sz35] <;> omega) | (simp only [rng, Ix.val, Int.toNat_natCast, mulE_eq, addQ_eq, addI, Option.getD_none, Option.getD_some, List.length_take, List.length_drop, List.length_append, List.length_set, List.length_replicate, sz5, sz22, sz33, sz34, sz35, *] <;> omega) | (simp only [Ix.val]; with_reducible assumption) | exact UInt8.toNat_lt _ | (apply Eq.trans; (with_reducible assumption); exact rfl) | exact rfl | exact fun _ _ => rfl)) ?_)
  refine Branch.intro (fun h => ?_) (fun h => ?_)
  · have h : ¬ L.2 = 1 := h
    rw [if_neg h] at hs
    repeat (refine Side.intro (by repeat' (first | (show AllP _; first | exact trivial | refine AllP.app ?_ ?_ | refine AllP.appd ?_ ?_ | refine AllP.cons ?_ ?_) | with_reducible rfl | with_reducible assumption | omega | (simp only [rng, Ix.val, addQ_eq, addI, sz5, sz22, sz33, sz34, sz35] <;> omega) | (simp only [rng, Ix.val, Int.toNat_natCast, mulE_eq, addQ_eq, addI, Option.getD_none, Option.getD_some, List.length_take, List.length_drop, List.length_append, List.length_set, List.length_replicate, sz5, sz22, sz33, sz34, sz35, *] <;> omega) | (simp only [Ix.val]; with_reducible assumption) | exact UInt8.toNat_lt _ | (apply Eq.trans; (with_reducible assumption); exact rfl) | exact rfl | exact fun _ _ => rfl)) ?_)
    refine ⟨rfl, hK _ _ ?_⟩
    refine Le.intro [] rfl ?_ rfl ?_ rfl
    · repeat' (first | (show AllP _; first | exact trivial | refine AllP.app ?_ ?_ | refine AllP.appd ?_ ?_ | refine AllP.cons ?_ ?_) | with_reducible rfl | with_reducible assumption | omega | (simp only [rng, Ix.val, addQ_eq, addI, sz5, sz22, sz33, sz34, sz35] <;> omega) | (simp only [rng, Ix.val, Int.toNat_natCast, mulE_eq, addQ_eq, addI, Option.getD_none, Option.getD_some, List.length_take, List.length_drop, List.length_append, List.length_set, List.length_replicate, sz5, sz22, sz33, sz34, sz35, *] <;> omega) | (simp only [Ix.val]; with_reducible assumption) | exact UInt8.toNat_lt _ | (apply Eq.trans; (with_reducible assumption); exact rfl) | exact rfl | exact fun _ _ => rfl)
    · repeat' (first | (show AllP _; first | exact trivial | refine AllP.app ?_ ?_ | refine AllP.appd ?_ ?_ | refine AllP.cons ?_ ?_) | with_reducible rfl | with_reducible assumption | omega | (simp only [rng, Ix.val, addQ_eq, addI, sz5, sz22, sz33, sz34, sz35] <;> omega) | (simp only [rng, Ix.val, Int.toNat_natCast, mulE_eq, addQ_eq, addI, Option.getD_none, Option.getD_some, List.length_take, List.length_drop, List.length_append, List.length_set, List.length_replicate, sz5, sz22, sz33, sz34, sz35, *] <;> omega) | (simp only [Ix.val]; with_reducible assumption) | exact UInt8.toNat_lt _ | (apply Eq.trans; (with_reducible assumption); exact rfl) | exact rfl | exact fun _ _ => rfl)
  · have h : ¬ ¬ L.2 = 1 := h
    rw [if_pos (Decidable.of_not_not h)] at hs
    refine ⟨rfl, hK _ _ ?_⟩
    refine Le.intro [] rfl ?_ rfl ?_ rfl
    · repeat' (first | (show AllP _; first | exact trivial | refine AllP.app ?_ ?_ | refine AllP.appd ?_ ?_ | refine AllP.cons ?_ ?_) | with_reducible rfl | with_reducible assumption | omega | (simp only [rng, Ix.val, addQ_eq, addI, sz5, sz22, sz33, sz34, sz35] <;> omega) | (simp only [rng, Ix.val, Int.toNat_natCast, mulE_eq, addQ_eq, addI, Option.getD_none, Option.getD_some, List.length_take, List.length_drop, List.length_append, List.length_set, List.length_replicate, sz5, sz22, sz33, sz34, sz35, *] <;> omega) | (simp only [Ix.val]; with_reducible assumption) | exact UInt8.toNat_lt _ | (apply Eq.trans; (with_reducible assumption); exact rfl) | exact rfl | exact fun _ _ => rfl)
    · repeat' (first | (show AllP _; first | exact trivial | refine AllP.app ?_ ?_ | refine AllP.appd ?_ ?_ | refine AllP.cons ?_ ?_) | with_reducible rfl | with_reducible assumption | omega | (simp only [rng, Ix.val, addQ_eq, addI, sz5, sz22, sz33, sz34, sz35] <;> omega) | (simp only [rng, Ix.val, Int.toNat_natCast, mulE_eq, addQ_eq, addI, Option.getD_none, Option.getD_some, List.length_take, List.length_drop, List.length_append, List.length_set, List.length_replicate, sz5, sz22, sz33, sz34, sz35, *] <;> omega) | (simp only [Ix.val]; with_reducible assumption) | exact UInt8.toNat_lt _ | (apply Eq.trans; (with_reducible assumption); exact rfl) | exact rfl | exact fun _ _ => rfl)

end Go.Proofs.Ytgfbclahkjdjeaa
