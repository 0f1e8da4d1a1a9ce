/- What the functions of the program compute. No condition. -/
import Derived.Test.YtkhnailodbkmhaaHwCh10ToCh10
set_option linter.unusedSimpArgs false
set_option linter.unusedVariables false
namespace Go.Proofs.Ytkhnailodbkmhaa
open Go Go.Sx
def stp (fr : Bool) (T : List Te) (key : List UInt8) : List Te × List UInt8 × List UInt8 :=
  match fr with
  | true => (nxT T key, kyB (nxN T key), kyB (nxK T key))
  | false => (T, hx1 78 key, hx1 77 key)
def skA (fr : Bool) (T : List Te) (key : List UInt8) : Nat → List Te × List UInt8
  | 0 => (T, key)
  | i + 1 => ((stp fr (skA fr T key i).1 (skA fr T key i).2).1, (stp fr (skA fr T key i).1 (skA fr T key i).2).2.1)
def skK (fr : Bool) (T : List Te) (key : List UInt8) (i : Nat) : List UInt8 := (stp fr (skA fr T key i).1 (skA fr T key i).2).2.2
def skP (fr : Bool) (T : List Te) (key : List UInt8) (r : List UInt8) (n : UInt16) (l : List Kp) : Nat → List Kp
  | 0 => l
  | i + 1 => skP fr T key r n l i ++ [(r, n + UInt16.ofNat i, skK fr T key i)]
def skX (fr : Bool) (T : List Te) (key : List UInt8) (r : List UInt8) (n : UInt16) (l : List Kp) (i : Nat) : Prop := 0 ≤ fiI r (n + UInt16.ofNat i) (skP fr T key r n l i)
theorem stp_valid {T : List Te} (fr : Bool) (h : ∀ x ∈ T, Valid x.1 x.2) (key : List UInt8) : ∀ x ∈ (stp fr T key).1, Valid x.1 x.2 := by
  cases fr with
  | true => exact nxT_valid h key
  | false => exact h
theorem stp_len (fr : Bool) (T : List Te) (key : List UInt8) : (stp fr T key).2.1.length = 32 ∧ (stp fr T key).2.2.length = 32 := by
  cases fr with
  | true => exact ⟨kyB_length _, kyB_length _⟩
  | false => exact ⟨hx1_len _ _, hx1_len _ _⟩
theorem stp_tlen (fr : Bool) (T : List Te) (key : List UInt8) : (stp fr T key).1.length ≤ T.length + 2 := by
  cases fr with
  | true => exact (nxT_len T key).2
  | false => show T.length ≤ _; omega
theorem skA_succ (fr : Bool) (T : List Te) (key : List UInt8) (i : Nat) : skA fr T key (i + 1) = ((stp fr (skA fr T key i).1 (skA fr T key i).2).1, (stp fr (skA fr T key i).1 (skA fr T key i).2).2.1) := rfl
theorem skP_succ (fr : Bool) (T : List Te) (key : List UInt8) (r : List UInt8) (n : UInt16) (l : List Kp) (i : Nat) : skP fr T key r n l (i + 1) = skP fr T key r n l i ++ [(r, n + UInt16.ofNat i, skK fr T key i)] := rfl
theorem skA_valid {T : List Te} (fr : Bool) (h : ∀ x ∈ T, Valid x.1 x.2) (key : List UInt8) : ∀ i, ∀ x ∈ (skA fr T key i).1, Valid x.1 x.2
  | 0 => h
  | i + 1 => by rw [skA_succ]; exact stp_valid fr (skA_valid fr h key i) _
theorem skA_tlen (fr : Bool) (T : List Te) (key : List UInt8) : ∀ i, (skA fr T key i).1.length ≤ T.length + 2 * i
  | 0 => Nat.le_refl _
  | i + 1 => by
    rw [skA_succ]
    have h1 := stp_tlen fr (skA fr T key i).1 (skA fr T key i).2
    have h2 := skA_tlen fr T key i
    show (stp fr _ _).1.length ≤ _
    omega
theorem skA_klen (fr : Bool) (T : List Te) {key : List UInt8} (hk : key.length = 32) : ∀ i, (skA fr T key i).2.length = 32
  | 0 => hk
  | i + 1 => by rw [skA_succ]; exact (stp_len fr _ _).1
theorem skK_len (fr : Bool) (T : List Te) (key : List UInt8) (i : Nat) : (skK fr T key i).length = 32 := (stp_len fr _ _).2
theorem skP_len (fr : Bool) (T : List Te) (key : List UInt8) (r : List UInt8) (n : UInt16) (l : List Kp) : ∀ i, (skP fr T key r n l i).length = l.length + i
  | 0 => rfl
  | i + 1 => by rw [skP_succ, List.length_append, skP_len fr T key r n l i]; rfl
theorem skP_ok (fr : Bool) (T : List Te) (key : List UInt8) {r : List UInt8} (hr : r.length = 32) (n : UInt16) {l : List Kp} (hl : ∀ x ∈ l, KpOK x) : ∀ i, ∀ x ∈ skP fr T key r n l i, KpOK x
  | 0 => hl
  | i + 1 => by
    rw [skP_succ]
    intro x hx
    rcases List.mem_append.1 hx with hx | hx
    · exact skP_ok fr T key hr n hl i x hx
    · rw [List.mem_singleton.1 hx]; exact ⟨hr, skK_len fr T key i⟩
theorem skA_zero' (fr : Bool) (T : List Te) (key : List UInt8) : skA fr T key 0 = (T, key) := rfl
theorem skP_zero' (fr : Bool) (T : List Te) (key : List UInt8) (r : List UInt8) (n : UInt16) (l : List Kp) : skP fr T key r n l 0 = l := rfl
theorem skK_eq (fr : Bool) (T : List Te) (key : List UInt8) (i : Nat) : skK fr T key i = (stp fr (skA fr T key i).1 (skA fr T key i).2).2.2 := rfl
attribute [irreducible] skA skK skP
theorem u16_add {n : UInt16} {i : Nat} (h : n.toNat + i < 65536) : (n + UInt16.ofNat i).toNat = n.toNat + i := by
  rw [UInt16.toNat_add, UInt16.toNat_ofNat']
  omega
theorem u16_lt {a b : UInt16} : a < b ↔ a.toNat < b.toNat := UInt16.lt_iff_toNat_lt
theorem u16_zero (n : UInt16) : n + UInt16.ofNat 0 = n := by
  apply UInt16.toNat_inj.1; rw [u16_add (by have := n.toNat_lt; omega)]; omega
theorem u16_succ (n : UInt16) (i : Nat) : n + UInt16.ofNat i + 1 = n + UInt16.ofNat (i + 1) := by
  apply UInt16.toNat_inj.1
  simp only [UInt16.toNat_add, UInt16.toNat_ofNat']
  show ((n.toNat + i % 2 ^ 16) % 2 ^ 16 + 1) % 2 ^ 16 = (n.toNat + (i + 1) % 2 ^ 16) % 2 ^ 16
  omega
def SkRes (fr : Bool) (T : List Te) (key : List UInt8) (r : List UInt8) (n to : UInt16) (l : List Kp) (T' : List Te) (k' : List UInt8) (n' : UInt16) (L' : List Kp) (e : Int) : Prop :=
  (to.toNat < n.toNat ∧ T' = T ∧ k' = key ∧ n' = n ∧ L' = l ∧ e = 180) ∨
  (n.toNat ≤ to.toNat ∧ 16 < to.toNat - n.toNat + l.length ∧ T' = T ∧ k' = key ∧ n' = n ∧ L' = l ∧ e = 181) ∨
  (n.toNat ≤ to.toNat ∧ to.toNat - n.toNat + l.length ≤ 16 ∧ (∃ i, i < to.toNat - n.toNat ∧ skX fr T key r n l i ∧ (∀ j, j < i → ¬ skX fr T key r n l j) ∧ T' = (skA fr T key (i + 1)).1) ∧ k' = key ∧ n' = n ∧ L' = l ∧ e = 3) ∨
  (n.toNat ≤ to.toNat ∧ to.toNat - n.toNat + l.length ≤ 16 ∧ (∀ j, j < to.toNat - n.toNat → ¬ skX fr T key r n l j) ∧ T' = (skA fr T key (to.toNat - n.toNat)).1 ∧ k' = (skA fr T key (to.toNat - n.toNat)).2 ∧ n' = to ∧ L' = skP fr T key r n l (to.toNat - n.toNat) ∧ e = 0)
theorem sub_nat {n to : UInt16} (h : n.toNat ≤ to.toNat) : (to - n).toNat = to.toNat - n.toNat := by
  rw [UInt16.toNat_sub]
  have := n.toNat_lt
  have := to.toNat_lt
  omega
end Go.Proofs.Ytkhnailodbkmhaa
