/- What the functions of the program compute. No condition. -/
import Derived.Test.YtkhnailodbkmhaaHwCh19ToCh19
set_option linter.unusedSimpArgs false
set_option linter.unusedVariables false
namespace Go.Proofs.Ytkhnailodbkmhaa
open Go Go.Sx
theorem cut_one (fr : Bool) (T : List Te) (key z : List UInt8) (n a : UInt16) (ha : a.toNat < 8) (hn : n.toNat ≤ 60000) {T1 : List Te} {k1 : List UInt8} {n1 : UInt16} {L1 : List Kp} {e1 : Int} (h : SkRes fr T key z n (n + a) [] T1 k1 n1 L1 e1) :
    T1 = (skA fr T key a.toNat).1 ∧ k1 = (skA fr T key a.toNat).2 ∧ n1 = n + a ∧ L1 = skP fr T key z n [] a.toNat ∧ e1 = 0 := by
  have h1 : (n + a).toNat = n.toNat + a.toNat := by rw [UInt16.toNat_add]; omega
  have := h.ok (by omega) (by rw [h1]; show n.toNat + a.toNat - n.toNat + 0 ≤ 16; omega) (fun j hj => skX_nil fr T key z n (by omega))
  rw [h1, show n.toNat + a.toNat - n.toNat = a.toNat by omega] at this
  exact this
theorem u16_of (a : UInt16) : UInt16.ofNat a.toNat = a := UInt16.ofNat_toNat
theorem cut_two (fr : Bool) (T : List Te) (key z : List UInt8) (n a b : UInt16) (ha : a.toNat < 8) (hb : b.toNat < 8) (hn : n.toNat ≤ 60000) {T1 : List Te} {k1 : List UInt8} {n1 : UInt16} {L1 : List Kp} {e1 : Int}
    (h : SkRes fr (skA fr T key a.toNat).1 (skA fr T key a.toNat).2 z (n + a) (n + a + b) (skP fr T key z n [] a.toNat) T1 k1 n1 L1 e1) :
    T1 = (skA fr T key (a.toNat + b.toNat)).1 ∧ k1 = (skA fr T key (a.toNat + b.toNat)).2 ∧ n1 = n + a + b ∧ L1 = skP fr T key z n [] (a.toNat + b.toNat) ∧ e1 = 0 := by
  have h1 : (n + a).toNat = n.toNat + a.toNat := by rw [UInt16.toNat_add]; omega
  have h2 : (n + a + b).toNat = n.toNat + a.toNat + b.toNat := by rw [UInt16.toNat_add, h1]; omega
  have ea : n + a = n + UInt16.ofNat a.toNat := by rw [u16_of]
  have hl := skP_len fr T key z n [] a.toNat
  have h0 : ([] : List Kp).length = 0 := rfl
  have := h.ok (by omega) (by omega) (fun j hj => by
    rw [ea, skX_add]; exact skX_nil fr T key z n (by omega))
  rw [h1, h2, show n.toNat + a.toNat + b.toNat - (n.toNat + a.toNat) = b.toNat by omega] at this
  rw [ea, skP_add, skA_add] at this
  rw [ea]; exact this
theorem cut_three (fr : Bool) (T : List Te) (key z : List UInt8) (hk : key.length = 32) (n a b : UInt16) (ha : a.toNat < 8) (hb : b.toNat < 8) (hn : n.toNat ≤ 60000) {T1 : List Te} {k1 : List UInt8} {n1 : UInt16} {L1 : List Kp} {e1 : Int}
    (h : SkRes fr (skA fr T key (a.toNat + b.toNat)).1 key z n (n + a + b) [] T1 k1 n1 L1 e1) :
    k1 = (skA fr T key (a.toNat + b.toNat)).2 ∧ n1 = n + a + b ∧ L1 = skP fr T key z n [] (a.toNat + b.toNat) ∧ e1 = 0 := by
  have h1 : (n + a).toNat = n.toNat + a.toNat := by rw [UInt16.toNat_add]; omega
  have h2 : (n + a + b).toNat = n.toNat + a.toNat + b.toNat := by rw [UInt16.toNat_add, h1]; omega
  have := h.ok (by omega) (by rw [h2]; show n.toNat + a.toNat + b.toNat - n.toNat + 0 ≤ 16; omega) (fun j hj => skX_nil fr _ key z n (by omega))
  rw [h2, show n.toNat + a.toNat + b.toNat - n.toNat = a.toNat + b.toNat by omega] at this
  rw [skA_again fr T hk _ _ (Nat.le_refl _), skP_again fr T hk z n [] _ _ (Nat.le_refl _)] at this
  exact this.2
set_option maxRecDepth 100000 in
set_option maxHeartbeats 1000000 in
theorem chainCutR (P : Prop) (hP : ¬ P) (key : List UInt8) (hk : key.length = 32) (n : UInt16) (u v : UInt8) : Sx.Fn Γ.P 5 [.bool P, .a8 key, .u16 n, .u8 u, .u8 v] [] (fun v _ => v = .tt) := by
  have h8 : UInt8.ofNat 8 ≠ 0 := by decide
  have ha : ((u % UInt8.ofNat 8).toUInt16).toNat < 8 := by rw [UInt8.toNat_toUInt16, UInt8.toNat_mod]; exact Nat.mod_lt _ (by decide)
  have hb : ((v % UInt8.ofNat 8).toUInt16).toNat < 8 := by rw [UInt8.toNat_toUInt16, UInt8.toNat_mod]; exact Nat.mod_lt _ (by decide)
  refine fn_of (Γ := Γ) (fn := Try.f5) rfl rfl rfl rfl ?_
  repeat (refine sd ?_)
  refine Call.intro fn9 [] rfl trivial rfl trivial rfl ?_
  rintro v1 M' rfl
  dsimp only [putT, afterM, newEnt, ren, renA, renS, renL, look, getM, getT, ev, evL, ofVal, cond_true, cond_false, Nat.beq_eq, act, isPar, ownPar, Ent.isOwn]
  repeat (refine sd ?_)
  refine Call.intro fnSuiteR [] rfl fc rfl trivial rfl ?_
  rintro v1 M' ⟨rfl, rfl⟩
  dsimp only [putT, afterM, newEnt, ren, renA, renS, renL, look, getM, getT, ev, evL, ofVal, cond_true, cond_false, Nat.beq_eq, act, isPar, ownPar, Ent.isOwn]
  repeat (refine sd ?_)
  refine Branch.intro (fun hc => ?_) (fun hc => ?_)
  · repeat (refine sd ?_)
    refine Ret.intro .tt [] [] rfl ?_ rfl rfl ?_ rfl ?_ rfl
    · exact fc
    · exact fc
    · exact fc
  have hn : ¬ 60000 < n.toNat := hc
  have h0 : ([] : List Kp).length = 0 := rfl
  have h00 : ([] : List Te).length = 0 := rfl
  have hS1 := fnSkipR key hk n (List.replicate 32 0) rfl (n + (u % UInt8.ofNat 8).toUInt16) [] 0 0 rfl (Nat.le_refl _) (by omega) (fun _ h => by cases h)
  repeat (refine sd ?_)
  refine Call.name [(0, []), (0, []), (0, []), (0, []), (2001, [(0, .arr 0 65 (kpF []))])] rfl ?_ (CallP.intro hS1 [(1003, (2001, 0, none)), (1006, (601, 0, none))] rfl ?_ rfl ?_ rfl ?_)
  · repeat' (first | (show AllP _; first | exact trivial | refine AllP.app ?_ ?_ | refine AllP.appd ?_ ?_ | refine AllP.cons ?_ ?_) | with_reducible rfl | with_reducible assumption | omega | (simp only [rng, Ix.val, addQ_eq, addI, sz4, by4, sz5, by5, sz22, by22, sz23, by23, sz24, by24, sz25, by25, sz26, by26, sz29, by29, sz30, by30, sz42, by42, sz50, by50, sz51, by51] <;> omega) | (simp only [rng, Ix.val, Int.toNat_natCast, mulE_eq, addQ_eq, addI, Option.getD_none, Option.getD_some, List.length_take, List.length_drop, List.length_append, List.length_set, List.length_replicate, sz4, by4, sz5, by5, sz22, by22, sz23, by23, sz24, by24, sz25, by25, sz26, by26, sz29, by29, sz30, by30, sz42, by42, sz50, by50, sz51, by51, *] <;> omega) | (simp only [Ix.val]; with_reducible assumption) | exact UInt8.toNat_lt _ | (apply Eq.trans; (with_reducible assumption); exact rfl) | exact rfl | exact fun _ _ => rfl)
    exact ⟨rfl, rfl, trivial⟩
  · exact fc
  · exact fc
  rintro v1 M' ⟨T1, k1, n1, L1, e1, m1, c1, hres1, hc1, hL1, rfl, rfl⟩
  obtain ⟨rfl, rfl, rfl, rfl, rfl⟩ := cut_one false [] key _ n (u % UInt8.ofNat 8).toUInt16 ha (by omega) hres1
  have hl1 := skP_len false [] key (List.replicate 32 0) n [] ((u % UInt8.ofNat 8).toUInt16).toNat
  have hk1 := skA_klen false [] hk ((u % UInt8.ofNat 8).toUInt16).toNat
  dsimp only [putT, afterM, newEnt, ren, renA, renS, renL, look, getM, getT, ev, evL, ofVal, cond_true, cond_false, Nat.beq_eq, act, isPar, ownPar, Ent.isOwn]
  have hS2 := fnSkipR (skA false [] key ((u % UInt8.ofNat 8).toUInt16).toNat).2 (skA_klen false [] hk _) (n + (u % UInt8.ofNat 8).toUInt16) (List.replicate 32 0) rfl (n + (u % UInt8.ofNat 8).toUInt16 + (v % UInt8.ofNat 8).toUInt16) (skP false [] key (List.replicate 32 0) n [] ((u % UInt8.ofNat 8).toUInt16).toNat) m1 m1 hL1 (Nat.le_refl _) (by omega) (skP_ok false [] key rfl n (fun _ h => by cases h) _)
  repeat (refine sd ?_)
  refine Call.intro hS2 [(1003, (601, 0, none)), (1006, (602, 0, none))] rfl ?_ rfl ?_ rfl ?_
  · exact fc
  · exact fc
  rintro v1 M' ⟨T2, k2, n2, L2, e2, m2, c2, hres2, hc2, hL2, rfl, rfl⟩
  have htk : (skP false [] key (List.replicate 32 0) n [] ((u % UInt8.ofNat 8).toUInt16).toNat).take m1 = skP false [] key (List.replicate 32 0) n [] ((u % UInt8.ofNat 8).toUInt16).toNat := List.take_of_length_le (by omega)
  rw [htk] at hres2
  have hrr : SkRes false (skA false [] key ((u % UInt8.ofNat 8).toUInt16).toNat).1 (skA false [] key ((u % UInt8.ofNat 8).toUInt16).toNat).2 (List.replicate 32 0) (n + (u % UInt8.ofNat 8).toUInt16) (n + (u % UInt8.ofNat 8).toUInt16 + (v % UInt8.ofNat 8).toUInt16) (skP false [] key (List.replicate 32 0) n [] ((u % UInt8.ofNat 8).toUInt16).toNat) T2 k2 n2 L2 e2 := by rw [skA_real]; exact hres2
  obtain ⟨rfl, rfl, rfl, rfl, rfl⟩ := cut_two false [] key _ n (u % UInt8.ofNat 8).toUInt16 (v % UInt8.ofNat 8).toUInt16 ha hb (by omega) hrr
  have hl2 := skP_len false [] key (List.replicate 32 0) n [] (((u % UInt8.ofNat 8).toUInt16).toNat + ((v % UInt8.ofNat 8).toUInt16).toNat)
  have hk2 := skA_klen false [] hk (((u % UInt8.ofNat 8).toUInt16).toNat + ((v % UInt8.ofNat 8).toUInt16).toNat)
  dsimp only [putT, afterM, newEnt, ren, renA, renS, renL, look, getM, getT, ev, evL, ofVal, cond_true, cond_false, Nat.beq_eq, act, isPar, ownPar, Ent.isOwn]
  have hS3 := fnSkipR key hk n (List.replicate 32 0) rfl (n + (u % UInt8.ofNat 8).toUInt16 + (v % UInt8.ofNat 8).toUInt16) [] 0 0 rfl (Nat.le_refl _) (by omega) (fun _ h => by cases h)
  repeat (refine sd ?_)
  refine Call.name [(0, []), (0, []), (0, []), (0, []), (2003, [(0, .arr 0 65 (kpF []))])] rfl ?_ (CallP.intro hS3 [(1003, (2003, 0, none)), (1006, (603, 0, none))] rfl ?_ rfl ?_ rfl ?_)
  · repeat' (first | (show AllP _; first | exact trivial | refine AllP.app ?_ ?_ | refine AllP.appd ?_ ?_ | refine AllP.cons ?_ ?_) | with_reducible rfl | with_reducible assumption | omega | (simp only [rng, Ix.val, addQ_eq, addI, sz4, by4, sz5, by5, sz22, by22, sz23, by23, sz24, by24, sz25, by25, sz26, by26, sz29, by29, sz30, by30, sz42, by42, sz50, by50, sz51, by51] <;> omega) | (simp only [rng, Ix.val, Int.toNat_natCast, mulE_eq, addQ_eq, addI, Option.getD_none, Option.getD_some, List.length_take, List.length_drop, List.length_append, List.length_set, List.length_replicate, sz4, by4, sz5, by5, sz22, by22, sz23, by23, sz24, by24, sz25, by25, sz26, by26, sz29, by29, sz30, by30, sz42, by42, sz50, by50, sz51, by51, *] <;> omega) | (simp only [Ix.val]; with_reducible assumption) | exact UInt8.toNat_lt _ | (apply Eq.trans; (with_reducible assumption); exact rfl) | exact rfl | exact fun _ _ => rfl)
    exact ⟨rfl, rfl, trivial⟩
  · exact fc
  · exact fc
  rintro v1 M' ⟨T3, k3, n3, L3, e3, m3, c3, hres3, hc3, hL3, rfl, rfl⟩
  have hrr3 : SkRes false (skA false [] key (((u % UInt8.ofNat 8).toUInt16).toNat + ((v % UInt8.ofNat 8).toUInt16).toNat)).1 key (List.replicate 32 0) n (n + (u % UInt8.ofNat 8).toUInt16 + (v % UInt8.ofNat 8).toUInt16) [] T3 k3 n3 L3 e3 := by rw [skA_real]; exact hres3
  obtain ⟨rfl, rfl, rfl, rfl⟩ := cut_three false [] key _ hk n (u % UInt8.ofNat 8).toUInt16 (v % UInt8.ofNat 8).toUInt16 ha hb (by omega) hrr3
  obtain rfl : m3 = m2 := by rw [← hL2, ← hL3]
  have hOc := skP_ok false [] key (r := List.replicate 32 0) rfl n (l := []) (fun _ h => by cases h) (((u % UInt8.ofNat 8).toUInt16).toNat + ((v % UInt8.ofNat 8).toUInt16).toNat)
  dsimp only [putT, afterM, newEnt, ren, renA, renS, renL, look, getM, getT, ev, evL, ofVal, cond_true, cond_false, Nat.beq_eq, act, isPar, ownPar, Ent.isOwn]
  repeat (refine sd ?_)
  refine Branch.intro (fun _ => ?_) (fun h => absurd rfl h)
  repeat (refine sd ?_)
  refine Branch.intro (fun _ => ?_) (fun h => absurd rfl h)
  repeat (refine sd ?_)
  refine Branch.intro (fun _ => ?_) (fun h => absurd rfl h)
  repeat (refine sd ?_)
  refine Branch.intro (fun _ => ?_) (fun h => absurd ⟨rfl, rfl⟩ h)
  repeat (refine sd ?_)
  have hSm := fn16 _ _ m3 m3 m3 m3 hL2 (Nat.le_refl _) (by omega) hL3 (Nat.le_refl _) (by omega) hOc hOc
  refine Call.intro hSm [(1003, (602, 0, none)), (1004, (603, 0, none))] rfl fc rfl fc rfl ?_
  rintro v1 M' ⟨rfl, rfl⟩
  dsimp only [putT, afterM, newEnt, ren, renA, renS, renL, look, getM, getT, ev, evL, ofVal, cond_true, cond_false, Nat.beq_eq, act, isPar, ownPar, Ent.isOwn]
  have hab : ((u % UInt8.ofNat 8).toUInt16 + (v % UInt8.ofNat 8).toUInt16).toNat = ((u % UInt8.ofNat 8).toUInt16).toNat + ((v % UInt8.ofNat 8).toUInt16).toNat := by rw [UInt16.toNat_add]; omega
  repeat (refine sd ?_)
  refine Branch.intro (fun _ => ?_) (fun h => absurd rfl h)
  repeat (refine sd ?_)
  refine Ret.intro .tt [] [] rfl ?_ rfl rfl ?_ rfl ?_ rfl
  · exact fc
  · repeat' (first | (show AllP _; first | exact trivial | refine AllP.app ?_ ?_ | refine AllP.appd ?_ ?_ | refine AllP.cons ?_ ?_) | with_reducible rfl | with_reducible assumption | omega | (simp only [rng, Ix.val, addQ_eq, addI, sz4, by4, sz5, by5, sz22, by22, sz23, by23, sz24, by24, sz25, by25, sz26, by26, sz29, by29, sz30, by30, sz42, by42, sz50, by50, sz51, by51] <;> omega) | (simp only [rng, Ix.val, Int.toNat_natCast, mulE_eq, addQ_eq, addI, Option.getD_none, Option.getD_some, List.length_take, List.length_drop, List.length_append, List.length_set, List.length_replicate, sz4, by4, sz5, by5, sz22, by22, sz23, by23, sz24, by24, sz25, by25, sz26, by26, sz29, by29, sz30, by30, sz42, by42, sz50, by50, sz51, by51, *] <;> omega) | (simp only [Ix.val]; with_reducible assumption) | exact UInt8.toNat_lt _ | (apply Eq.trans; (with_reducible assumption); exact rfl) | exact rfl | exact fun _ _ => rfl)
    all_goals trace_state
  · exact fc
set_option maxRecDepth 100000 in
set_option maxHeartbeats 1000000 in
theorem chainCutF (P : Prop) (hP : P) (key : List UInt8) (hk : key.length = 32) (n : UInt16) (u v : UInt8) : Sx.Fn Γ.P 5 [.bool P, .a8 key, .u16 n, .u8 u, .u8 v] [] (fun v _ => v = .tt) := by
  have h8 : UInt8.ofNat 8 ≠ 0 := by decide
  have ha : ((u % UInt8.ofNat 8).toUInt16).toNat < 8 := by rw [UInt8.toNat_toUInt16, UInt8.toNat_mod]; exact Nat.mod_lt _ (by decide)
  have hb : ((v % UInt8.ofNat 8).toUInt16).toNat < 8 := by rw [UInt8.toNat_toUInt16, UInt8.toNat_mod]; exact Nat.mod_lt _ (by decide)
  refine fn_of (Γ := Γ) (fn := Try.f5) rfl rfl rfl rfl ?_
  repeat (refine sd ?_)
  refine Call.intro fn9 [] rfl trivial rfl trivial rfl ?_
  rintro v1 M' rfl
  dsimp only [putT, afterM, newEnt, ren, renA, renS, renL, look, getM, getT, ev, evL, ofVal, cond_true, cond_false, Nat.beq_eq, act, isPar, ownPar, Ent.isOwn]
  repeat (refine sd ?_)
  refine Call.intro fnSuiteF [(1000, (401, 0, none)), (1001, (402, 0, none)), (1002, (403, 0, none))] rfl fc rfl trivial rfl ?_
  rintro v1 M' ⟨rfl, rfl⟩
  dsimp only [putT, afterM, newEnt, ren, renA, renS, renL, look, getM, getT, ev, evL, ofVal, cond_true, cond_false, Nat.beq_eq, act, isPar, ownPar, Ent.isOwn]
  repeat (refine sd ?_)
  refine Branch.intro (fun hc => ?_) (fun hc => ?_)
  · repeat (refine sd ?_)
    refine Ret.intro .tt [] [] rfl ?_ rfl rfl ?_ rfl ?_ rfl
    · exact fc
    · exact fc
    · exact fc
  have hn : ¬ 60000 < n.toNat := hc
  have h0 : ([] : List Kp).length = 0 := rfl
  have h00 : ([] : List Te).length = 0 := rfl
  have hS1 := fnSkipF [] 0 0 rfl (by omega) (Nat.le_refl _) tb0_valid key hk n (List.replicate 32 0) rfl (n + (u % UInt8.ofNat 8).toUInt16) [] 0 0 rfl (Nat.le_refl _) (by omega) (fun _ h => by cases h)
  unfold tbM at hS1
  repeat (refine sd ?_)
  refine Call.name [(0, []), (0, []), (0, []), (0, []), (2001, [(0, .arr 0 65 (kpF []))])] rfl ?_ (CallP.intro hS1 [(1000, (401, 0, none)), (1001, (402, 0, none)), (1002, (403, 0, none)), (1005, (501, 0, none)), (1003, (2001, 0, none)), (1006, (601, 0, none))] rfl ?_ rfl ?_ rfl ?_)
  · repeat' (first | (show AllP _; first | exact trivial | refine AllP.app ?_ ?_ | refine AllP.appd ?_ ?_ | refine AllP.cons ?_ ?_) | with_reducible rfl | with_reducible assumption | omega | (simp only [rng, Ix.val, addQ_eq, addI, sz4, by4, sz5, by5, sz22, by22, sz23, by23, sz24, by24, sz25, by25, sz26, by26, sz29, by29, sz30, by30, sz42, by42, sz50, by50, sz51, by51] <;> omega) | (simp only [rng, Ix.val, Int.toNat_natCast, mulE_eq, addQ_eq, addI, Option.getD_none, Option.getD_some, List.length_take, List.length_drop, List.length_append, List.length_set, List.length_replicate, sz4, by4, sz5, by5, sz22, by22, sz23, by23, sz24, by24, sz25, by25, sz26, by26, sz29, by29, sz30, by30, sz42, by42, sz50, by50, sz51, by51, *] <;> omega) | (simp only [Ix.val]; with_reducible assumption) | exact UInt8.toNat_lt _ | (apply Eq.trans; (with_reducible assumption); exact rfl) | exact rfl | exact fun _ _ => rfl)
    exact ⟨rfl, rfl, trivial⟩
  · exact fc
  · exact fc
  rintro v1 M' ⟨T1, k1, n1, L1, e1, m1, c1, nt1, ct1, hnt1, hct1, hres1, hc1, hL1, rfl, rfl⟩
  obtain ⟨rfl, rfl, rfl, rfl, rfl⟩ := cut_one true [] key _ n (u % UInt8.ofNat 8).toUInt16 ha (by omega) hres1
  have hl1 := skP_len true [] key (List.replicate 32 0) n [] ((u % UInt8.ofNat 8).toUInt16).toNat
  have hk1 := skA_klen true [] hk ((u % UInt8.ofNat 8).toUInt16).toNat
  dsimp only [putT, afterM, newEnt, ren, renA, renS, renL, look, getM, getT, ev, evL, ofVal, cond_true, cond_false, Nat.beq_eq, act, isPar, ownPar, Ent.isOwn]
  have hS2 := fnSkipF (skA true [] key ((u % UInt8.ofNat 8).toUInt16).toNat).1 nt1 ct1 hnt1 (by have := skA_tlen true [] key (((u % UInt8.ofNat 8).toUInt16).toNat); omega) hct1 (skA_valid true tb0_valid key _) (skA true [] key ((u % UInt8.ofNat 8).toUInt16).toNat).2 (skA_klen true [] hk _) (n + (u % UInt8.ofNat 8).toUInt16) (List.replicate 32 0) rfl (n + (u % UInt8.ofNat 8).toUInt16 + (v % UInt8.ofNat 8).toUInt16) (skP true [] key (List.replicate 32 0) n [] ((u % UInt8.ofNat 8).toUInt16).toNat) m1 m1 hL1 (Nat.le_refl _) (by omega) (skP_ok true [] key rfl n (fun _ h => by cases h) _)
  unfold tbM at hS2
  repeat (refine sd ?_)
  refine Call.intro hS2 [(1000, (401, 0, none)), (1001, (501, 0, none)), (1002, (403, 0, none)), (1005, (502, 0, none)), (1003, (601, 0, none)), (1006, (602, 0, none))] rfl ?_ rfl ?_ rfl ?_
  · exact fc
  · exact fc
  rintro v1 M' ⟨T2, k2, n2, L2, e2, m2, c2, nt2, ct2, hnt2, hct2, hres2, hc2, hL2, rfl, rfl⟩
  have htk : (skP true [] key (List.replicate 32 0) n [] ((u % UInt8.ofNat 8).toUInt16).toNat).take m1 = skP true [] key (List.replicate 32 0) n [] ((u % UInt8.ofNat 8).toUInt16).toNat := List.take_of_length_le (by omega)
  rw [htk] at hres2
  obtain ⟨rfl, rfl, rfl, rfl, rfl⟩ := cut_two true [] key _ n (u % UInt8.ofNat 8).toUInt16 (v % UInt8.ofNat 8).toUInt16 ha hb (by omega) hres2
  have hl2 := skP_len true [] key (List.replicate 32 0) n [] (((u % UInt8.ofNat 8).toUInt16).toNat + ((v % UInt8.ofNat 8).toUInt16).toNat)
  have hk2 := skA_klen true [] hk (((u % UInt8.ofNat 8).toUInt16).toNat + ((v % UInt8.ofNat 8).toUInt16).toNat)
  dsimp only [putT, afterM, newEnt, ren, renA, renS, renL, look, getM, getT, ev, evL, ofVal, cond_true, cond_false, Nat.beq_eq, act, isPar, ownPar, Ent.isOwn]
  have hS3 := fnSkipF (skA true [] key (((u % UInt8.ofNat 8).toUInt16).toNat + ((v % UInt8.ofNat 8).toUInt16).toNat)).1 nt2 ct2 hnt2 (by have := skA_tlen true [] key (((u % UInt8.ofNat 8).toUInt16).toNat + ((v % UInt8.ofNat 8).toUInt16).toNat); omega) hct2 (skA_valid true tb0_valid key _) key hk n (List.replicate 32 0) rfl (n + (u % UInt8.ofNat 8).toUInt16 + (v % UInt8.ofNat 8).toUInt16) [] 0 0 rfl (Nat.le_refl _) (by omega) (fun _ h => by cases h)
  unfold tbM at hS3
  repeat (refine sd ?_)
  refine Call.name [(0, []), (0, []), (0, []), (0, []), (2003, [(0, .arr 0 65 (kpF []))])] rfl ?_ (CallP.intro hS3 [(1000, (401, 0, none)), (1001, (502, 0, none)), (1002, (403, 0, none)), (1005, (503, 0, none)), (1003, (2003, 0, none)), (1006, (603, 0, none))] rfl ?_ rfl ?_ rfl ?_)
  · repeat' (first | (show AllP _; first | exact trivial | refine AllP.app ?_ ?_ | refine AllP.appd ?_ ?_ | refine AllP.cons ?_ ?_) | with_reducible rfl | with_reducible assumption | omega | (simp only [rng, Ix.val, addQ_eq, addI, sz4, by4, sz5, by5, sz22, by22, sz23, by23, sz24, by24, sz25, by25, sz26, by26, sz29, by29, sz30, by30, sz42, by42, sz50, by50, sz51, by51] <;> omega) | (simp only [rng, Ix.val, Int.toNat_natCast, mulE_eq, addQ_eq, addI, Option.getD_none, Option.getD_some, List.length_take, List.length_drop, List.length_append, List.length_set, List.length_replicate, sz4, by4, sz5, by5, sz22, by22, sz23, by23, sz24, by24, sz25, by25, sz26, by26, sz29, by29, sz30, by30, sz42, by42, sz50, by50, sz51, by51, *] <;> omega) | (simp only [Ix.val]; with_reducible assumption) | exact UInt8.toNat_lt _ | (apply Eq.trans; (with_reducible assumption); exact rfl) | exact rfl | exact fun _ _ => rfl)
    exact ⟨rfl, rfl, trivial⟩
  · exact fc
  · exact fc
  rintro v1 M' ⟨T3, k3, n3, L3, e3, m3, c3, nt3, ct3, hnt3, hct3, hres3, hc3, hL3, rfl, rfl⟩
  obtain ⟨rfl, rfl, rfl, rfl⟩ := cut_three true [] key _ hk n (u % UInt8.ofNat 8).toUInt16 (v % UInt8.ofNat 8).toUInt16 ha hb (by omega) hres3
  obtain rfl : m3 = m2 := by rw [← hL2, ← hL3]
  have hOc := skP_ok true [] key (r := List.replicate 32 0) rfl n (l := []) (fun _ h => by cases h) (((u % UInt8.ofNat 8).toUInt16).toNat + ((v % UInt8.ofNat 8).toUInt16).toNat)
  dsimp only [putT, afterM, newEnt, ren, renA, renS, renL, look, getM, getT, ev, evL, ofVal, cond_true, cond_false, Nat.beq_eq, act, isPar, ownPar, Ent.isOwn]
  repeat (refine sd ?_)
  refine Branch.intro (fun _ => ?_) (fun h => absurd rfl h)
  repeat (refine sd ?_)
  refine Branch.intro (fun _ => ?_) (fun h => absurd rfl h)
  repeat (refine sd ?_)
  refine Branch.intro (fun _ => ?_) (fun h => absurd rfl h)
  repeat (refine sd ?_)
  refine Branch.intro (fun _ => ?_) (fun h => absurd ⟨rfl, rfl⟩ h)
  repeat (refine sd ?_)
  have hSm := fn16 _ _ m3 m3 m3 m3 hL2 (Nat.le_refl _) (by omega) hL3 (Nat.le_refl _) (by omega) hOc hOc
  refine Call.intro hSm [(1003, (602, 0, none)), (1004, (603, 0, none))] rfl fc rfl fc rfl ?_
  rintro v1 M' ⟨rfl, rfl⟩
  dsimp only [putT, afterM, newEnt, ren, renA, renS, renL, look, getM, getT, ev, evL, ofVal, cond_true, cond_false, Nat.beq_eq, act, isPar, ownPar, Ent.isOwn]
  have hab : ((u % UInt8.ofNat 8).toUInt16 + (v % UInt8.ofNat 8).toUInt16).toNat = ((u % UInt8.ofNat 8).toUInt16).toNat + ((v % UInt8.ofNat 8).toUInt16).toNat := by rw [UInt16.toNat_add]; omega
  repeat (refine sd ?_)
  refine Branch.intro (fun _ => ?_) (fun h => absurd rfl h)
  repeat (refine sd ?_)
  refine Ret.intro .tt [] [] rfl ?_ rfl rfl ?_ rfl ?_ rfl
  · exact fc
  · repeat' (first | (show AllP _; first | exact trivial | refine AllP.app ?_ ?_ | refine AllP.appd ?_ ?_ | refine AllP.cons ?_ ?_) | with_reducible rfl | with_reducible assumption | omega | (simp only [rng, Ix.val, addQ_eq, addI, sz4, by4, sz5, by5, sz22, by22, sz23, by23, sz24, by24, sz25, by25, sz26, by26, sz29, by29, sz30, by30, sz42, by42, sz50, by50, sz51, by51] <;> omega) | (simp only [rng, Ix.val, Int.toNat_natCast, mulE_eq, addQ_eq, addI, Option.getD_none, Option.getD_some, List.length_take, List.length_drop, List.length_append, List.length_set, List.length_replicate, sz4, by4, sz5, by5, sz22, by22, sz23, by23, sz24, by24, sz25, by25, sz26, by26, sz29, by29, sz30, by30, sz42, by42, sz50, by50, sz51, by51, *] <;> omega) | (simp only [Ix.val]; with_reducible assumption) | exact UInt8.toNat_lt _ | (apply Eq.trans; (with_reducible assumption); exact rfl) | exact rfl | exact fun _ _ => rfl)
    all_goals trace_state
  · exact fc
theorem chainCut_runs (svs : List SV) (h : AllF [isBool, isArr8 32, isU16, isU8, isU8] svs) : Sx.Fn Γ.P 5 svs [] (fun v _ => v = .tt) := by
  match svs, h with
  | [_, _, _, _, _], ⟨⟨b, rfl⟩, ⟨key, hk, rfl⟩, ⟨n, rfl⟩, ⟨u, rfl⟩, ⟨v, rfl⟩, _⟩ =>
    by_cases hb : b = true
    · exact chainCutF _ hb key hk n u v
    · exact chainCutR _ hb key hk n u v
end Go.Proofs.Ytkhnailodbkmhaa
