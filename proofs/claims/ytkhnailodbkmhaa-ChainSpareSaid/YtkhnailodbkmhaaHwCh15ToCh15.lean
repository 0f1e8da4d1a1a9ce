/- What the functions of the program compute. No condition. -/
import Derived.Test.YtkhnailodbkmhaaHwCh14ToCh14
set_option linter.unusedSimpArgs false
set_option linter.unusedVariables false
namespace Go.Proofs.Ytkhnailodbkmhaa
open Go Go.Sx
theorem skP_mem (fr : Bool) (T : List Te) (key : List UInt8) (r : List UInt8) (n : UInt16) (l : List Kp) : ∀ j, ∀ x ∈ skP fr T key r n l j, x ∈ l ∨ ∃ i, i < j ∧ x = (r, n + UInt16.ofNat i, skK fr T key i)
  | 0, x, h => by rw [skP_zero'] at h; exact Or.inl h
  | j + 1, x, h => by
    rw [skP_succ] at h
    rcases List.mem_append.1 h with h | h
    · exact (skP_mem fr T key r n l j x h).imp id fun ⟨i, h1, h2⟩ => ⟨i, by omega, h2⟩
    · exact Or.inr ⟨j, by omega, List.mem_singleton.1 h⟩
theorem fiI_no {r : List UInt8} {k : UInt16} {L : List Kp} (h : ∀ x ∈ L, ¬ isK r k x) : fiI r k L = -1 := by
  have := fiI_none (r := r) (n := k) (l := L) (m := L.length) (Nat.le_refl _) (fun j hj => h _ (getD_mem kp0 hj))
  rw [List.take_length] at this; exact this
theorem u16_ne (n : UInt16) {i j : Nat} (hij : i < j) (hj : j < 65536) : n + UInt16.ofNat i ≠ n + UInt16.ofNat j := by
  intro h
  have := congrArg UInt16.toNat h
  rw [UInt16.toNat_add, UInt16.toNat_add, UInt16.toNat_ofNat', UInt16.toNat_ofNat'] at this
  have := n.toNat_lt
  omega
theorem skX_nil (fr : Bool) (T : List Te) (key : List UInt8) (r : List UInt8) (n : UInt16) {j : Nat} (hj : j < 65536) : ¬ skX fr T key r n [] j := by
  unfold skX
  rw [fiI_no]
  · omega
  · intro x hx h
    rcases skP_mem fr T key r n [] j x hx with h1 | ⟨i, h1, h2⟩
    · cases h1
    · subst h2
      exact u16_ne n h1 hj h.2
theorem SkRes.ok {fr : Bool} {T : List Te} {key : List UInt8} {r : List UInt8} {n to : UInt16} {l : List Kp} {T' : List Te} {k' : List UInt8} {n' : UInt16} {L' : List Kp} {e : Int} (h : SkRes fr T key r n to l T' k' n' L' e)
    (h1 : n.toNat ≤ to.toNat) (h2 : to.toNat - n.toNat + l.length ≤ 16) (h3 : ∀ j, j < to.toNat - n.toNat → ¬ skX fr T key r n l j) :
    T' = (skA fr T key (to.toNat - n.toNat)).1 ∧ k' = (skA fr T key (to.toNat - n.toNat)).2 ∧ n' = to ∧ L' = skP fr T key r n l (to.toNat - n.toNat) ∧ e = 0 := by
  rcases h with ⟨h, _⟩ | ⟨_, h, _⟩ | ⟨_, _, ⟨i, g1, g2, _⟩, _⟩ | ⟨_, _, _, h⟩
  · omega
  · omega
  · exact absurd g2 (h3 i g1)
  · exact h
theorem SkRes.old {fr : Bool} {T : List Te} {key : List UInt8} {r : List UInt8} {n to : UInt16} {l : List Kp} {T' : List Te} {k' : List UInt8} {n' : UInt16} {L' : List Kp} {e : Int} (h : SkRes fr T key r n to l T' k' n' L' e)
    (h1 : to.toNat < n.toNat) : T' = T ∧ k' = key ∧ n' = n ∧ L' = l ∧ e = 180 := by
  rcases h with ⟨_, h⟩ | ⟨h, _⟩ | ⟨h, _⟩ | ⟨h, _⟩
  · exact h
  · omega
  · omega
  · omega
theorem tb0_valid : ∀ x ∈ ([] : List Te), Valid x.1 x.2 := fun _ h => by cases h
set_option maxRecDepth 100000 in
set_option maxHeartbeats 1000000 in
theorem fn9 : Sx.Fn Γ.P 9 [] [] (fun v _ => v = .tt) := by
  obtain ⟨z, hz⟩ : ∃ z : List UInt8, List.replicate 32 0 = z := ⟨_, rfl⟩
  obtain ⟨r, hr⟩ : ∃ r : List UInt8, (UInt8.ofNat 1 :: List.replicate 31 0 : List UInt8) = r := ⟨_, rfl⟩
  have hzl : z.length = 32 := by rw [← hz]; rfl
  have hrl : r.length = 32 := by rw [← hr]; rfl
  have hS := fnSkipF [] 0 0 rfl (by omega) (Nat.le_refl _) tb0_valid z hzl 2 r hrl 4 [] 0 0 rfl (Nat.le_refl _) (by omega) (fun _ h => by cases h)
  unfold tbM at hS
  refine fn_of (Γ := Γ) (fn := Try.f9) rfl rfl rfl rfl ?_
  repeat (refine sd ?_)
  refine Call.intro fnSuiteF [(1000, (1000, 0, none)), (1001, (1001, 0, none)), (1002, (1002, 0, none))] rfl fc rfl trivial rfl ?_
  rintro v M' ⟨rfl, rfl⟩
  dsimp only [putT, afterM, newEnt, ren, renA, renS, renL, look, getM, getT, ev, evL, ofVal, cond_true, cond_false, Nat.beq_eq, act, isPar, ownPar, Ent.isOwn]
  repeat (refine sd ?_)
  refine Call.name [(0, []), (0, []), (0, []), (0, []), (2001, [(0, .arr 0 65 (kpF []))])] rfl ?_ (CallP.intro hS [(1000, (1000, 0, none)), (1001, (1001, 0, none)), (1002, (1002, 0, none)), (1003, (2001, 0, none)), (1006, (306, 0, none)), (1005, (305, 0, none))] rfl ?_ rfl ?_ rfl ?_)
  · repeat' (first | (show AllP _; first | exact trivial | refine AllP.app ?_ ?_ | refine AllP.appd ?_ ?_ | refine AllP.cons ?_ ?_) | with_reducible rfl | with_reducible assumption | omega | (simp only [rng, Ix.val, addQ_eq, addI, sz4, by4, sz5, by5, sz22, by22, sz23, by23, sz24, by24, sz25, by25, sz26, by26, sz29, by29, sz30, by30, sz42, by42, sz50, by50, sz51, by51] <;> omega) | (simp only [rng, Ix.val, Int.toNat_natCast, mulE_eq, addQ_eq, addI, Option.getD_none, Option.getD_some, List.length_take, List.length_drop, List.length_append, List.length_set, List.length_replicate, sz4, by4, sz5, by5, sz22, by22, sz23, by23, sz24, by24, sz25, by25, sz26, by26, sz29, by29, sz30, by30, sz42, by42, sz50, by50, sz51, by51, *] <;> omega) | (simp only [Ix.val]; with_reducible assumption) | exact UInt8.toNat_lt _ | (apply Eq.trans; (with_reducible assumption); exact rfl) | exact rfl | exact fun _ _ => rfl)
    exact ⟨rfl, rfl, trivial⟩
  · exact fc
  · exact fc
  rintro v M' ⟨T', k', n', L', e, m', c, nt', ct', hT', hct', hres, hc, hL', rfl, rfl⟩
  have hd : (4 : UInt16).toNat - (2 : UInt16).toNat = 2 := rfl
  have hres := hres.ok (by decide) (by decide) (fun j hj => skX_nil _ _ _ _ _ (by have : j < 2 := hj; omega))
  rw [hd] at hres
  obtain ⟨rfl, rfl, rfl, rfl, rfl⟩ := hres
  have hm2 : m' = 2 := by rw [← hL', skP_len]; rfl
  subst hm2
  have hv := skA_valid true tb0_valid z 2
  have hg1 : ((skP true [] z r 2 [] 2).getD 1 kp0).2.1 = 3 := by
    rw [skP_succ, skP_succ, skP_zero']; rfl
  have hS2 := fnSkipF (skA true [] z 2).1 nt' ct' hT' (by have := skA_tlen true [] z 2; have h0 : ([] : List Te).length = 0 := rfl; omega) hct' hv z hzl 2 r hrl 1 [] 0 0 rfl (Nat.le_refl _) (by omega) (fun _ h => by cases h)
  unfold tbM at hS2
  dsimp only [putT, afterM, newEnt, ren, renA, renS, renL, look, getM, getT, ev, evL, ofVal, cond_true, cond_false, Nat.beq_eq, act, isPar, ownPar, Ent.isOwn]
  have hkl := skA_klen true [] hzl 2
  repeat (refine sd ?_)
  refine Call.name [(0, []), (0, []), (0, []), (0, []), (2002, [(0, .arr 0 65 (kpF []))])] rfl ?_ (CallP.intro hS2 [(1000, (1000, 0, none)), (1001, (305, 0, none)), (1002, (1002, 0, none)), (1003, (2002, 0, none)), (1006, (316, 0, none)), (1005, (315, 0, none))] rfl ?_ rfl ?_ rfl ?_)
  · repeat' (first | (show AllP _; first | exact trivial | refine AllP.app ?_ ?_ | refine AllP.appd ?_ ?_ | refine AllP.cons ?_ ?_) | with_reducible rfl | with_reducible assumption | omega | (simp only [rng, Ix.val, addQ_eq, addI, sz4, by4, sz5, by5, sz22, by22, sz23, by23, sz24, by24, sz25, by25, sz26, by26, sz29, by29, sz30, by30, sz42, by42, sz50, by50, sz51, by51] <;> omega) | (simp only [rng, Ix.val, Int.toNat_natCast, mulE_eq, addQ_eq, addI, Option.getD_none, Option.getD_some, List.length_take, List.length_drop, List.length_append, List.length_set, List.length_replicate, sz4, by4, sz5, by5, sz22, by22, sz23, by23, sz24, by24, sz25, by25, sz26, by26, sz29, by29, sz30, by30, sz42, by42, sz50, by50, sz51, by51, *] <;> omega) | (simp only [Ix.val]; with_reducible assumption) | exact UInt8.toNat_lt _ | (apply Eq.trans; (with_reducible assumption); exact rfl) | exact rfl | exact fun _ _ => rfl)
    exact ⟨rfl, rfl, trivial⟩
  · exact fc
  · exact fc
  rintro v M' ⟨T', k', n', L', e, m', c2, nt2, ct2, hT2, hct2, hres2, hc2, hL2, rfl, rfl⟩
  obtain ⟨rfl, rfl, rfl, rfl, rfl⟩ := hres2.old (by decide)
  have hm2 : m' = 0 := by rw [← hL2]; rfl
  subst hm2
  dsimp only [putT, afterM, newEnt, ren, renA, renS, renL, look, getM, getT, ev, evL, ofVal, cond_true, cond_false, Nat.beq_eq, act, isPar, ownPar, Ent.isOwn]
  repeat (refine sd ?_)
  refine Branch.intro (fun _ => ?_) (fun h => absurd rfl h)
  repeat (refine sd ?_)
  refine Branch.intro (fun _ => ?_) (fun h => absurd rfl h)
  repeat (refine sd ?_)
  refine Branch.intro (fun _ => ?_) (fun h => absurd rfl h)
  repeat (refine sd ?_)
  refine Branch.intro (fun _ => ?_) (fun h => absurd hg1 h)
  repeat (refine sd ?_)
  refine Ret.intro .tt [] [] rfl ?_ rfl rfl ?_ rfl ?_ rfl
  · exact fc
  · exact fc
  · exact fc
end Go.Proofs.Ytkhnailodbkmhaa
