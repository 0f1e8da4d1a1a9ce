/- What the functions of the program compute. No condition. -/
import Derived.Test.YtoaaplgjacjlpaaHwTm12ToTm12
import Derived.Test.YtoaaplgjacjlpaaHx7
set_option linter.unusedSimpArgs false
set_option linter.unusedVariables false
namespace Go.Proofs.Ytoaaplgjacjlpaa
open Go Go.Sx

/-! What comes in: terms that are made, parts. -/

def rowP (p : Pt) : List (Nat × SV) := [(1, .isl 0 p.1.length 1 [(p.1.length * 1, .ai p.1)]), (1, .isl 0 p.2.length 1 [(p.2.length * 1, .a8 p.2)])]
def rowO (o : Opr) : List (Nat × SV) := [(1, .i .i64 o.1), (1, ptsS o.2)]
def zP : List (Nat × SV) := [(1, .isl 0 0 1 [(0 * 1, .ai [])]), (1, .isl 0 0 1 [(0 * 1, .a8 [])])]
def zO : List (Nat × SV) := [(1, .i .i64 0), (1, .isl 0 0 2 [(0 * 2, .arr 0 2 fun _ => zP)])]

theorem part_of {ls : List (Nat × SV)} (h : catF [cSlI, cSl8 1] ls) : ∃ p : Pt, PtOK p ∧ ls = rowP p := by
  obtain ⟨_, _, ⟨a, _, h1, rfl⟩, ⟨_, _, ⟨n, b, h2, h3, rfl⟩, rfl, rfl⟩, rfl⟩ := h
  obtain rfl : n = b.length := by omega
  exact ⟨(a, b), ⟨h1, h3⟩, rfl⟩
theorem parts_of {n : Nat} {L : Nat → List (Nat × SV)} (h : ∀ q, q < n → catF [cSlI, cSl8 1] (L q)) (hD : ∀ q, n ≤ q → L q = zP) : ∃ ps : List Pt, ps.length = n ∧ (∀ p ∈ ps, PtOK p) ∧ L = ptF ps :=
  rows_list rowP pt0 PtOK (fun q hq => part_of (h q hq)) hD
theorem op_of {ls : List (Nat × SV)} (h : catF [cInt .i64, cSl 2 zP (catF [cSlI, cSl8 1])] ls) : ∃ o : Opr, OpOK o ∧ ls = rowO o := by
  obtain ⟨_, _, ⟨k, _, rfl⟩, ⟨_, _, ⟨n, L, h1, h2, h3, rfl⟩, rfl, rfl⟩, rfl⟩ := h
  obtain ⟨ps, h4, h5, rfl⟩ := parts_of h1 h2
  subst h4
  exact ⟨(k, ps), ⟨h3, h5⟩, rfl⟩
theorem opsArg {s : SV} (h : isOfSl 2 zO (catF [cInt .i64, cSl 2 zP (catF [cSlI, cSl8 1])]) s) : ∃ l : List Opr, l.length ≤ maxLen ∧ (∀ o ∈ l, OpOK o) ∧ s = opsS l := by
  obtain ⟨n, L, h1, h2, h3, rfl⟩ := h
  obtain ⟨l, h4, h5, rfl⟩ := rows_list rowO op0 OpOK (fun q hq => op_of (h1 q hq)) h2
  subst h4
  exact ⟨l, h3, h5, rfl⟩
theorem ptsArg {s : SV} (h : isOfSl 2 zP (catF [cSlI, cSl8 1]) s) : ∃ ps : List Pt, ps.length ≤ maxLen ∧ (∀ p ∈ ps, PtOK p) ∧ s = ptsS ps := by
  obtain ⟨n, L, h1, h2, h3, rfl⟩ := h
  obtain ⟨ps, h4, h5, rfl⟩ := parts_of h1 h2
  subst h4
  exact ⟨ps, h3, h5, rfl⟩
theorem ptArg {s : SV} (h : isOfStruct (catF [cSlI, cSl8 1]) s) : ∃ p : Pt, PtOK p ∧ s = .agg (rowP p) := by
  obtain ⟨ls, h1, rfl⟩ := h
  obtain ⟨p, h2, rfl⟩ := part_of h1
  exact ⟨p, h2, rfl⟩
theorem opArg {s : SV} (h : isOfStruct (catF [cInt .i64, cSl 2 zP (catF [cSlI, cSl8 1])]) s) : ∃ o : Opr, OpOK o ∧ s = .agg (rowO o) := by
  obtain ⟨ls, h1, rfl⟩ := h
  obtain ⟨o, h2, rfl⟩ := op_of h1
  exact ⟨o, h2, rfl⟩

/-! Parts' bytes, one by one. -/
def cuK (ps : List Pt) (made : Nat) : Nat → List (List UInt8)
  | 0 => []
  | k + 1 => cuK ps made k ++ [ctB (ps.getD k pt0) made 5000]
theorem cuK_zero (ps : List Pt) (made : Nat) : cuK ps made 0 = [] := rfl
theorem cuK_succ (ps : List Pt) (made k : Nat) : cuK ps made (k + 1) = cuK ps made k ++ [ctB (ps.getD k pt0) made 5000] := rfl
attribute [irreducible] cuK
theorem cuK_length (ps : List Pt) (made : Nat) : ∀ k, (cuK ps made k).length = k
  | 0 => by rw [cuK_zero]; rfl
  | k + 1 => by rw [cuK_succ, List.length_append, cuK_length ps made k]; rfl
theorem cuK_le (ps : List Pt) (made : Nat) : ∀ k, ∀ x ∈ cuK ps made k, x.length ≤ 5128
  | 0, x, h => by rw [cuK_zero] at h; cases h
  | k + 1, x, h => by
    rw [cuK_succ] at h
    rcases List.mem_append.1 h with h | h
    · exact cuK_le ps made k x h
    · obtain rfl : x = ctB (ps.getD k pt0) made 5000 := by simpa using h
      have := ctB_le (ps.getD k pt0) made 5000
      omega
theorem cuK_row (ps : List Pt) (made k : Nat) {N : Nat} (hN : (ctB (ps.getD k pt0) made 5000).length = N) : ∀ q, q < k + 1 → rwF (cuK ps made (k + 1)) q = appF k (rwF (cuK ps made k)) (rowF [[(1, .isl 0 N 1 [(N * 1, .a8 (ctB (ps.getD k pt0) made 5000))])]]) q := by
  rw [cuK_succ]
  refine appF_row (fun q hq => rwF_lt (by rw [cuK_length]; exact hq)) ?_
  have := rwF_at (cuK ps made k) (ctB (ps.getD k pt0) made 5000)
  rw [cuK_length] at this
  rw [this, hN]

/-! Two terms have one name just if they are one. -/
theorem putB4_inj {n m : Nat} (hn : n < 4294967296) (hm : m < 4294967296) (h : putB n 4 = putB m 4) : n = m := by
  simp only [putB, List.cons.injEq, and_true] at h
  obtain ⟨h3, h2, h1, h0⟩ := h
  have e3 := ofNat8_mod h3
  have e2 := ofNat8_mod h2
  have e1 := ofNat8_mod h1
  have e0 := ofNat8_mod h0
  simp only [Nat.reducePow, Nat.div_one] at e3 e2 e1 e0
  omega
theorem nameB_inj {n m : Nat} (hn : n < 4294967296) (hm : m < 4294967296) (h : nameB n = nameB m) : n = m := by
  rw [nameB_eq, nameB_eq] at h
  have h1 := List.append_cancel_left h
  exact putB4_inj hn hm (List.append_cancel_right h1)
theorem kyB_inj {n m : Nat} (hn : n < 4294967296) (hm : m < 4294967296) (h0 : n ≠ 0) (h1 : m ≠ 0) : kyB n = kyB m ↔ n = m := by
  obtain ⟨n, rfl⟩ : ∃ k, n = k + 1 := ⟨n - 1, by omega⟩
  obtain ⟨m, rfl⟩ : ∃ k, m = k + 1 := ⟨m - 1, by omega⟩
  exact ⟨fun h => nameB_inj hn hm h, fun h => by rw [h]⟩
theorem fdT_app {x : Te} : ∀ {T r : List Te} {i : Nat}, fdT x T = i + 1 → fdT x (T ++ r) = i + 1
  | [], _, _, h => by simp [fdT] at h
  | y :: t, r, i, h => by
    by_cases hy : y = x
    · simp only [fdT, if_pos hy, List.cons_append] at h ⊢; exact h
    · simp only [fdT, if_neg hy, List.cons_append] at h ⊢
      cases hf : fdT x t with
      | zero => rw [hf] at h; cases h
      | succ j => rw [hf] at h; rw [fdT_app hf]; exact h
theorem fdT_getD {x : Te} : ∀ {T : List Te} {i : Nat}, fdT x T = i + 1 → T.getD i te0 = x
  | [], _, h => by simp [fdT] at h
  | y :: t, i, h => by
    by_cases hy : y = x
    · simp only [fdT, if_pos hy] at h
      obtain rfl : i = 0 := by omega
      exact hy
    · simp only [fdT, if_neg hy] at h
      cases hf : fdT x t with
      | zero => rw [hf] at h; cases h
      | succ j =>
        rw [hf] at h
        have h : j + 2 = i + 1 := h
        obtain rfl : i = j + 1 := by omega
        exact (fdT_getD hf : t.getD j te0 = x)
theorem fdT_new (x : Te) : ∀ {T : List Te}, fdT x T = 0 → fdT x (T ++ [x]) = T.length + 1
  | [], _ => by simp [fdT]
  | y :: t, h => by
    by_cases hy : y = x
    · simp only [fdT, if_pos hy] at h; cases h
    · simp only [fdT, if_neg hy, List.cons_append] at h ⊢
      cases hf : fdT x t with
      | zero => rw [fdT_new x hf]; rfl
      | succ j => rw [hf] at h; cases h
theorem mkT_fd {T : List Te} {x : Te} (hV : Valid x.1 x.2) : (mkT T x).2 = fdT x (mkT T x).1 ∧ (mkT T x).2 ≠ 0 := by
  cases hf : fdT x T with
  | zero => rw [mkT_new hV hf]; exact ⟨(fdT_new x hf).symm, by simp⟩
  | succ i => rw [mkT_old hV hf]; exact ⟨hf.symm, by simp⟩
theorem mkT_yes {T : List Te} {x : Te} (h : (mkT T x).2 ≠ 0) : Valid x.1 x.2 := Classical.byContradiction fun hV => h (by rw [mkT_no hV])
theorem mkT_ext {T : List Te} {x y : Te} {i : Nat} (h : fdT y T = i + 1) : fdT y (mkT T x).1 = i + 1 := by
  by_cases hV : Valid x.1 x.2
  · cases hf : fdT x T with
    | zero => rw [mkT_new hV hf]; exact fdT_app h
    | succ j => rw [mkT_old hV hf]; exact h
  · rw [mkT_no hV]; exact h
theorem unlike {T : List Te} {x y : Te} (hl : T.length ≤ 80) (h1 : (mkT T x).2 ≠ 0) (h2 : (mkT (mkT T x).1 y).2 ≠ 0) :
    (mkT (mkT (mkT T x).1 y).1 x).2 = (mkT T x).2 ∧ (kyB (mkT T x).2 = kyB (mkT (mkT T x).1 y).2 ↔ x = y) := by
  have hx := mkT_yes h1
  have hy := mkT_yes h2
  obtain ⟨e1, _⟩ := mkT_fd (T := T) hx
  obtain ⟨e2, _⟩ := mkT_fd (T := (mkT T x).1) hy
  have l1 := (mkT_len T x).2
  have l2 := (mkT_len (mkT T x).1 y).2
  obtain ⟨i, hi⟩ : ∃ i, (mkT T x).2 = i + 1 := ⟨(mkT T x).2 - 1, by omega⟩
  have f1 : fdT x (mkT T x).1 = i + 1 := by rw [← e1, hi]
  have f2 := mkT_ext (x := y) f1
  have e3 : mkT (mkT (mkT T x).1 y).1 x = ((mkT (mkT T x).1 y).1, i + 1) := mkT_old hx f2
  refine ⟨by rw [e3, hi], ?_⟩
  have b1 := fdT_le x (mkT T x).1
  have b2 := fdT_le y (mkT (mkT T x).1 y).1
  rw [kyB_inj (by omega) (by omega) h1 h2, e2, hi]
  constructor
  · intro h
    exact (fdT_getD f2).symm.trans (fdT_getD h.symm)
  · intro h
    rw [← h] at f2 ⊢
    exact f2.symm

end Go.Proofs.Ytoaaplgjacjlpaa
