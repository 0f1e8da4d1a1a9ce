/- What the functions of the program compute. No condition. -/
import Derived.Test.YtkhnailodbkmhaaHwTm7ToTm7
set_option linter.unusedSimpArgs false
set_option linter.unusedVariables false
namespace Go.Proofs.Ytkhnailodbkmhaa
open Go Go.Sx
abbrev Te := Int × List (List UInt8)
def te0 : Te := (0, [])
def prS (L : List (List UInt8)) : SV := .isl 0 L.length 1 [(L.length * 1, .arr L.length 1 (rwF L))]
def Valid (k : Int) (L : List (List UInt8)) : Prop := Joins L ∧ 1 ≤ k ∧ k ≤ 8
instance (k : Int) (L : List (List UInt8)) : Decidable (Valid k L) := inferInstanceAs (Decidable (_ ∧ _ ∧ _))
def fdT (x : Te) : List Te → Nat
  | [] => 0
  | y :: r => if y = x then 1 else match fdT x r with
    | 0 => 0
    | i + 1 => i + 2
theorem fdT_le (x : Te) : ∀ T : List Te, fdT x T ≤ T.length
  | [] => Nat.le_refl _
  | y :: r => by
    have := fdT_le x r
    unfold fdT
    split
    · simp
    · split
      · simp
      · rename_i i h; rw [h] at this; simp only [List.length_cons]; omega
@[irreducible] def mkT (T : List Te) (x : Te) : List Te × Nat := if Valid x.1 x.2 then match fdT x T with
  | 0 => (T ++ [x], T.length + 1)
  | i + 1 => (T, i + 1)
  else (T, 0)
theorem mkT_no {T : List Te} {x : Te} (h : ¬ Valid x.1 x.2) : mkT T x = (T, 0) := by unfold mkT; rw [if_neg h]
theorem mkT_old {T : List Te} {x : Te} {i : Nat} (h : Valid x.1 x.2) (hf : fdT x T = i + 1) : mkT T x = (T, i + 1) := by unfold mkT; rw [if_pos h, hf]
theorem mkT_new {T : List Te} {x : Te} (h : Valid x.1 x.2) (hf : fdT x T = 0) : mkT T x = (T ++ [x], T.length + 1) := by unfold mkT; rw [if_pos h, hf]
def kyB (o : Nat) : List UInt8 := match o with
  | 0 => List.replicate 32 0
  | i + 1 => nameB (i + 1)
theorem kyB_length : ∀ o, (kyB o).length = 32
  | 0 => rfl
  | i + 1 => nameB_length _
theorem appF_row {n : Nat} {F H : Nat → List (Nat × SV)} {c : List (Nat × SV)} (h1 : ∀ q, q < n → H q = F q) (h2 : H n = c) : ∀ q, q < n + 1 → H q = appF n F (rowF [c]) q := by
  intro q hq
  rcases Nat.lt_or_ge q n with h | h
  · rw [appF_lt h, h1 q h]
  · obtain rfl : q = n := by omega
    rw [appF_ge h, h2]
    rfl
theorem getD_app_lt {α : Type} (d : α) {T : List α} {x : α} {q : Nat} (h : q < T.length) : (T ++ [x]).getD q d = T.getD q d := by
  rw [List.getD_eq_getElem?_getD, List.getD_eq_getElem?_getD, List.getElem?_append_left h]
theorem getD_app_at {α : Type} (d : α) (T : List α) (x : α) : (T ++ [x]).getD T.length d = x := by
  rw [List.getD_eq_getElem?_getD, List.getElem?_append_right (Nat.le_refl _), Nat.sub_self]
  rfl
end Go.Proofs.Ytkhnailodbkmhaa
