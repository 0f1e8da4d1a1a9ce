/- What the functions of the program compute. No condition. -/
import Derived.Test.YtkhnailodbkmhaaHwCh18ToCh18
set_option linter.unusedSimpArgs false
set_option linter.unusedVariables false
namespace Go.Proofs.Ytkhnailodbkmhaa
open Go Go.Sx
theorem fdT_pre {x : Te} : ∀ {T r : List Te} {i : Nat}, fdT x T = i + 1 → fdT x (T ++ r) = i + 1
  | [], _, _, h => by simp [fdT] at h
  | y :: t, r, i, h => by
    by_cases hy : y = x
    · simp only [fdT, if_pos hy, List.cons_append] at h ⊢; exact h
    · simp only [fdT, if_neg hy, List.cons_append] at h ⊢
      cases hf : fdT x t with
      | zero => rw [hf] at h; cases h
      | succ j => rw [hf] at h; rw [fdT_pre hf]; exact h
theorem fdT_last (x : Te) : ∀ {T : List Te}, fdT x T = 0 → fdT x (T ++ [x]) = T.length + 1
  | [], _ => by simp [fdT]
  | y :: t, h => by
    by_cases hy : y = x
    · simp only [fdT, if_pos hy] at h; cases h
    · simp only [fdT, if_neg hy, List.cons_append] at h ⊢
      cases hf : fdT x t with
      | zero => rw [fdT_last x hf]; rfl
      | succ j => rw [hf] at h; cases h
theorem mkT_again {T : List Te} {x : Te} (h : Valid x.1 x.2) {l : List Te} : mkT ((mkT T x).1 ++ l) x = ((mkT T x).1 ++ l, (mkT T x).2) := by
  cases hf : fdT x T with
  | zero =>
    rw [mkT_new h hf]
    exact mkT_old h (fdT_pre (fdT_last x hf))
  | succ i =>
    rw [mkT_old h hf]
    exact mkT_old h (fdT_pre hf)
theorem mkT_pre (T : List Te) (x : Te) : ∃ l, (mkT T x).1 = T ++ l := by
  by_cases h : Valid x.1 x.2
  · cases hf : fdT x T with
    | zero => rw [mkT_new h hf]; exact ⟨_, rfl⟩
    | succ i => rw [mkT_old h hf]; exact ⟨[], (List.append_nil _).symm⟩
  · rw [mkT_no h]; exact ⟨[], (List.append_nil _).symm⟩
theorem mx1_pre (T : List Te) (lab : UInt8) (p : List UInt8) : ∃ l, (mx1 T lab p).1 = T ++ l := by rw [mx1_eq]; exact mkT_pre T _
theorem mx1_again (T : List Te) (lab : UInt8) {p : List UInt8} (hp : p.length ≤ 1024) (l : List Te) : mx1 ((mx1 T lab p).1 ++ l) lab p = ((mx1 T lab p).1 ++ l, (mx1 T lab p).2) := by
  rw [mx1_eq, mx1_eq]; exact mkT_again (x := (7, _)) (valid7 (joins2 lab hp))
theorem nxT_pre (T : List Te) (key : List UInt8) : ∃ l, nxT T key = T ++ l := by
  unfold nxT nxA
  obtain ⟨l1, h1⟩ := mx1_pre T 77 key
  obtain ⟨l2, h2⟩ := mx1_pre (mx1 T 77 key).1 78 key
  exact ⟨l1 ++ l2, by rw [h2, h1, List.append_assoc]⟩
theorem nx_again (T : List Te) {key : List UInt8} (hk : key.length ≤ 1024) (l : List Te) : nxT (nxT T key ++ l) key = nxT T key ++ l ∧ nxK (nxT T key ++ l) key = nxK T key ∧ nxN (nxT T key ++ l) key = nxN T key := by
  obtain ⟨l2, h2⟩ := mx1_pre (mx1 T 77 key).1 78 key
  have e : nxT T key = (mx1 T 77 key).1 ++ l2 := by unfold nxT nxA; exact h2
  have h3 := mx1_again T 77 hk (l2 ++ l)
  have h4 := mx1_again (mx1 T 77 key).1 78 hk l
  have e2 : nxT T key = (mx1 (mx1 T 77 key).1 78 key).1 := by unfold nxT nxA; rfl
  have hA : nxA (nxT T key ++ l) key = nxT T key ++ l := by
    unfold nxA; rw [e, List.append_assoc, h3]
  refine ⟨?_, ?_, ?_⟩
  · show nxT (nxT T key ++ l) key = _
    have : nxT (nxT T key ++ l) key = (mx1 (nxA (nxT T key ++ l) key) 78 key).1 := by unfold nxT; rfl
    rw [this, hA, e2, h4]
  · have : nxK (nxT T key ++ l) key = (mx1 (nxT T key ++ l) 77 key).2 := by unfold nxK; rfl
    rw [this, e, List.append_assoc, h3]; unfold nxK; rfl
  · have : nxN (nxT T key ++ l) key = (mx1 (nxA (nxT T key ++ l) key) 78 key).2 := by unfold nxN; rfl
    rw [this, hA, e2, h4]; unfold nxN nxA; rfl
theorem skA_add (fr : Bool) (T : List Te) (key : List UInt8) (a : Nat) : ∀ i, skA fr (skA fr T key a).1 (skA fr T key a).2 i = skA fr T key (a + i)
  | 0 => by rw [skA_zero', Nat.add_zero]
  | i + 1 => by rw [skA_succ, skA_add fr T key a i, ← Nat.add_assoc, skA_succ]
theorem skK_add (fr : Bool) (T : List Te) (key : List UInt8) (a i : Nat) : skK fr (skA fr T key a).1 (skA fr T key a).2 i = skK fr T key (a + i) := by
  rw [skK_eq, skK_eq, skA_add]
theorem skP_add (fr : Bool) (T : List Te) (key : List UInt8) (r : List UInt8) (n : UInt16) (l : List Kp) (a : Nat) : ∀ i, skP fr (skA fr T key a).1 (skA fr T key a).2 r (n + UInt16.ofNat a) (skP fr T key r n l a) i = skP fr T key r n l (a + i)
  | 0 => by rw [skP_zero', Nat.add_zero]
  | i + 1 => by
    rw [skP_succ, skP_add fr T key r n l a i, ← Nat.add_assoc, skP_succ, skK_add]
    have : n + UInt16.ofNat a + UInt16.ofNat i = n + UInt16.ofNat (a + i) := by
      apply UInt16.toNat_inj.1
      simp only [UInt16.toNat_add, UInt16.toNat_ofNat']
      omega
    rw [this]
theorem skX_add (fr : Bool) (T : List Te) (key : List UInt8) (r : List UInt8) (n : UInt16) (l : List Kp) (a i : Nat) : skX fr (skA fr T key a).1 (skA fr T key a).2 r (n + UInt16.ofNat a) (skP fr T key r n l a) i ↔ skX fr T key r n l (a + i) := by
  unfold skX
  rw [skP_add]
  have : n + UInt16.ofNat a + UInt16.ofNat i = n + UInt16.ofNat (a + i) := by
    apply UInt16.toNat_inj.1
    simp only [UInt16.toNat_add, UInt16.toNat_ofNat']
    omega
  rw [this]
theorem skA_pre (T : List Te) (key : List UInt8) : ∀ i j, ∃ l, (skA true T key (i + j)).1 = (skA true T key i).1 ++ l
  | i, 0 => ⟨[], by rw [List.append_nil]; rfl⟩
  | i, j + 1 => by
    obtain ⟨l1, h1⟩ := skA_pre T key i j
    obtain ⟨l2, h2⟩ := nxT_pre (skA true T key (i + j)).1 (skA true T key (i + j)).2
    refine ⟨l1 ++ l2, ?_⟩
    rw [← Nat.add_assoc, skA_succ]
    show nxT _ _ = _
    rw [h2, h1, List.append_assoc]
theorem skA_again (fr : Bool) (T : List Te) {key : List UInt8} (hk : key.length = 32) (m : Nat) : ∀ i, i ≤ m → skA fr (skA fr T key m).1 key i = ((skA fr T key m).1, (skA fr T key i).2)
  | 0, _ => by rw [skA_zero', skA_zero']
  | i + 1, hi => by
    rw [skA_succ, skA_again fr T hk m i (by omega)]
    cases fr with
    | false => rw [skA_succ]; rfl
    | true =>
      obtain ⟨l, hl⟩ := skA_pre T key (i + 1) (m - (i + 1))
      rw [show i + 1 + (m - (i + 1)) = m by omega] at hl
      have hT : (skA true T key (i + 1)).1 = nxT (skA true T key i).1 (skA true T key i).2 := by rw [skA_succ]; rfl
      have hK : (skA true T key (i + 1)).2 = kyB (nxN (skA true T key i).1 (skA true T key i).2) := by rw [skA_succ]; rfl
      have hag := nx_again (skA true T key i).1 (key := (skA true T key i).2) (by rw [skA_klen true T hk i]; omega) l
      rw [← hT, ← hl] at hag
      show (nxT (skA true T key m).1 (skA true T key i).2, kyB (nxN (skA true T key m).1 (skA true T key i).2)) = _
      rw [hag.1, hag.2.2, hK]
theorem skK_again (fr : Bool) (T : List Te) {key : List UInt8} (hk : key.length = 32) (m i : Nat) (hi : i < m) : skK fr (skA fr T key m).1 key i = skK fr T key i := by
  rw [skK_eq, skK_eq, skA_again fr T hk m i (by omega)]
  cases fr with
  | false => rfl
  | true =>
    obtain ⟨l, hl⟩ := skA_pre T key (i + 1) (m - (i + 1))
    rw [show i + 1 + (m - (i + 1)) = m by omega] at hl
    have hT : (skA true T key (i + 1)).1 = nxT (skA true T key i).1 (skA true T key i).2 := by rw [skA_succ]; rfl
    have hag := nx_again (skA true T key i).1 (key := (skA true T key i).2) (by rw [skA_klen true T hk i]; omega) l
    rw [← hT, ← hl] at hag
    show kyB (nxK (skA true T key m).1 (skA true T key i).2) = _
    rw [hag.2.1]; rfl
theorem skP_again (fr : Bool) (T : List Te) {key : List UInt8} (hk : key.length = 32) (r : List UInt8) (n : UInt16) (l : List Kp) (m : Nat) : ∀ i, i ≤ m → skP fr (skA fr T key m).1 key r n l i = skP fr T key r n l i
  | 0, _ => by rw [skP_zero', skP_zero']
  | i + 1, hi => by rw [skP_succ, skP_succ, skP_again fr T hk r n l m i (by omega), skK_again fr T hk m i (by omega)]
end Go.Proofs.Ytkhnailodbkmhaa
