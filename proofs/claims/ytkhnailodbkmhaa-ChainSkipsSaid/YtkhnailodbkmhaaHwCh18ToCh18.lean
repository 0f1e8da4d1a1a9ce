/- What the functions of the program compute. No condition. -/
import Derived.Test.YtkhnailodbkmhaaHwCh15ToCh15
import Derived.Test.YtkhnailodbkmhaaHx7
set_option linter.unusedSimpArgs false
set_option linter.unusedVariables false
namespace Go.Proofs.Ytkhnailodbkmhaa
open Go Go.Sx
def zK : List (Nat × SV) := [(32, .a8 (List.replicate 32 0)), (1, .u16 0), (32, .a8 (List.replicate 32 0))]
theorem kept_of {ls : List (Nat × SV)} (h : catF [cArr8 32, cU16, cArr8 32] ls) : ∃ x : Kp, KpOK x ∧ ls = rowK x := by
  obtain ⟨_, _, ⟨a, h1, rfl⟩, ⟨_, _, ⟨n, rfl⟩, ⟨_, _, ⟨b, h2, rfl⟩, rfl, rfl⟩, rfl⟩, rfl⟩ := h
  exact ⟨(a, n, b), ⟨h1, h2⟩, rfl⟩
theorem keptsArg {s : SV} (h : isOfSl 65 zK (catF [cArr8 32, cU16, cArr8 32]) s) : ∃ l : List Kp, l.length ≤ maxLen ∧ (∀ x ∈ l, KpOK x) ∧ s = .isl 0 l.length 65 [(l.length * 65, .arr l.length 65 (kpF l))] := by
  obtain ⟨n, L, h1, h2, h3, rfl⟩ := h
  obtain ⟨l, h4, h5, rfl⟩ := rows_list rowK kp0 KpOK (fun q hq => kept_of (h1 q hq)) h2
  subst h4
  exact ⟨l, h3, h5, rfl⟩
theorem SkRes.det {fr : Bool} {T : List Te} {key : List UInt8} {r : List UInt8} {n to : UInt16} {l : List Kp} {T1 T2 : List Te} {k1 k2 : List UInt8} {n1 n2 : UInt16} {L1 L2 : List Kp} {e1 e2 : Int}
    (h1 : SkRes fr T key r n to l T1 k1 n1 L1 e1) (h2 : SkRes fr T key r n to l T2 k2 n2 L2 e2) : T1 = T2 ∧ k1 = k2 ∧ n1 = n2 ∧ L1 = L2 ∧ e1 = e2 := by
  rcases h1 with ⟨a1, rfl, rfl, rfl, rfl, rfl⟩ | ⟨a1, a2, rfl, rfl, rfl, rfl, rfl⟩ | ⟨a1, a2, ⟨i, a3, a4, a5, rfl⟩, rfl, rfl, rfl, rfl⟩ | ⟨a1, a2, a3, rfl, rfl, rfl, rfl, rfl⟩ <;>
  rcases h2 with ⟨b1, rfl, rfl, rfl, rfl, rfl⟩ | ⟨b1, b2, rfl, rfl, rfl, rfl, rfl⟩ | ⟨b1, b2, ⟨j, b3, b4, b5, rfl⟩, rfl, rfl, rfl, rfl⟩ | ⟨b1, b2, b3, rfl, rfl, rfl, rfl, rfl⟩
  all_goals first
    | exact ⟨rfl, rfl, rfl, rfl, rfl⟩
    | (exfalso; omega)
    | (exfalso; exact absurd b4 (a3 _ b3))
    | (exfalso; exact absurd a4 (b3 _ a3))
    | skip
  rcases Nat.lt_trichotomy i j with h | h | h
  · exact absurd a4 (b5 i h)
  · subst h; exact ⟨rfl, rfl, rfl, rfl, rfl⟩
  · exact absurd b4 (a5 j h)
theorem SkRes.info {fr : Bool} {T : List Te} {key : List UInt8} {r : List UInt8} {n to : UInt16} {l : List Kp} {T' : List Te} {k' : List UInt8} {n' : UInt16} {L' : List Kp} {e : Int} (h : SkRes fr T key r n to l T' k' n' L' e)
    (hk : key.length = 32) (hr : r.length = 32) (hl : ∀ x ∈ l, KpOK x) (hT : ∀ x ∈ T, Valid x.1 x.2) :
    k'.length = 32 ∧ (∀ x ∈ L', KpOK x) ∧ L'.length ≤ l.length + 16 ∧ (∀ x ∈ T', Valid x.1 x.2) ∧ T'.length ≤ T.length + 40 := by
  rcases h with ⟨a1, rfl, rfl, rfl, rfl, rfl⟩ | ⟨a1, a2, rfl, rfl, rfl, rfl, rfl⟩ | ⟨a1, a2, ⟨i, a3, a4, a5, rfl⟩, rfl, rfl, rfl, rfl⟩ | ⟨a1, a2, a3, rfl, rfl, rfl, rfl, rfl⟩
  · exact ⟨hk, hl, by omega, hT, by omega⟩
  · exact ⟨hk, hl, by omega, hT, by omega⟩
  · exact ⟨hk, hl, by omega, skA_valid fr hT _ _, by have := skA_tlen fr T k' (i + 1); omega⟩
  · refine ⟨skA_klen fr T hk _, skP_ok fr T key hr n hl _, by rw [skP_len]; omega, skA_valid fr hT _ _, ?_⟩
    have := skA_tlen fr T key (n'.toNat - n.toNat)
    omega
set_option maxRecDepth 100000 in
set_option maxHeartbeats 1000000 in
theorem chainSkipsR (P : Prop) (hP : ¬ P) (key : List UInt8) (hk : key.length = 32) (n : UInt16) (r : List UInt8) (hr : r.length = 32) (to : UInt16) (l : List Kp) (m : Nat) (hm : l.length = m) (hm2 : m ≤ maxLen) (hOK : ∀ x ∈ l, KpOK x) :
    Sx.Fn Γ.P 4 [.bool P, .agg [(32, .a8 key), (1, .u16 n)], .a8 r, .u16 to, .isl 0 m 65 [(m * 65, .arr m 65 (kpF l))]] [] (fun v _ => v = .tt) := by
  have hmx : maxLen = 9223372036854775807 := by decide
  refine fn_of (Γ := Γ) (fn := Try.f4) rfl rfl rfl rfl ?_
  repeat (refine sd ?_)
  refine Call.intro fn9 [] rfl trivial rfl trivial rfl ?_
  rintro v M' rfl
  dsimp only [putT, afterM, newEnt, ren, renA, renS, renL, look, getM, getT, ev, evL, ofVal, cond_true, cond_false, Nat.beq_eq, act, isPar, ownPar, Ent.isOwn]
  repeat (refine sd ?_)
  refine Branch.intro (fun hc => ?_) (fun hc => ?_)
  · repeat (refine sd ?_)
    refine Ret.intro .tt [] [] rfl ?_ rfl rfl ?_ rfl ?_ rfl
    · exact fc
    · exact fc
    · exact fc
  have hc : ¬ (m : Int) > 100 := hc
  have hS := fnSkipR key hk n r hr to l m m hm (Nat.le_refl _) (by omega) hOK
  have hW := fnRSkipR key hk n r hr to l m m hm (Nat.le_refl _) (by omega) hOK
  refine Draw.intro [[], [0], [], [], [], [], [0, 1, 2, 3, 4, 5], [0, 1, 2, 3, 4, 5, 6], [0, 1, 2, 3, 4, 5, 6, 7], [0, 1, 2, 3, 4, 5, 6, 7], [0, 1, 2, 3, 4, 5, 6, 7], [], [0, 1, 2, 3, 4, 5, 6, 7, 8, 11], [0, 1, 2, 3, 4, 5, 6, 7, 8, 9, 11, 12], [0, 1, 2, 3, 4, 5, 6, 7, 8, 9, 10, 11, 12, 13]] [0, 2, 3, 4, 5, 11, 1, 6, 7, 8, 9, 10, 12, 13, 14] (by kernel_rfl) ?_
  repeat (refine sd ?_)
  refine Call.intro fnSuiteR [] rfl fc rfl trivial rfl ?_
  rintro v M' ⟨rfl, rfl⟩
  dsimp only [putT, afterM, newEnt, ren, renA, renS, renL, look, getM, getT, ev, evL, ofVal, cond_true, cond_false, Nat.beq_eq, act, isPar, ownPar, Ent.isOwn]
  refine Grow.auto rfl rfl ?_
  repeat (refine sd ?_)
  refine Call.name [(0, []), (0, []), (0, []), (0, []), (2001, [])] rfl fc (CallP.intro hS [(1003, (2001, 0, none)), (1006, (306, 0, none))] rfl fc rfl fc rfl ?_)
  rintro v M' ⟨T1, k1, n1, L1, e1, m1, c1, hres1, hc1, hL1, rfl, rfl⟩
  dsimp only [putT, afterM, newEnt, ren, renA, renS, renL, look, getM, getT, ev, evL, ofVal, cond_true, cond_false, Nat.beq_eq, act, isPar, ownPar, Ent.isOwn]
  refine Grow.auto rfl rfl ?_
  obtain ⟨hk1, hO1, hLm1, _, _⟩ := hres1.info hk hr (fun x hx => hOK x (List.mem_of_mem_take hx)) tb0_valid
  have hlt : (l.take m).length ≤ m := by rw [List.length_take]; omega
  repeat (refine sd ?_)
  refine Draw.intro [[], [0], [], [], [], [], [0, 1, 2, 3, 4, 5], [0, 1, 2, 3, 4, 5, 6], [0, 1, 2, 3, 4, 5, 6, 7], [0, 1, 2, 3, 4, 5, 6, 7], [0, 1, 2, 3, 4, 5, 6, 7], [], [0, 1, 2, 3, 4, 5, 6, 7, 8, 11], [0, 1, 2, 3, 4, 5, 6, 7, 8, 9, 11, 12], [0, 1, 2, 3, 4, 5, 6, 7, 8, 9, 10, 11, 12, 13]] [0, 2, 3, 4, 5, 11, 1, 6, 7, 8, 9, 10, 12, 13, 14] (by kernel_rfl) ?_
  repeat (refine sd ?_)
  refine Call.intro fnRefR [] rfl fc rfl trivial rfl ?_
  rintro v M' ⟨rfl, rfl⟩
  dsimp only [putT, afterM, newEnt, ren, renA, renS, renL, look, getM, getT, ev, evL, ofVal, cond_true, cond_false, Nat.beq_eq, act, isPar, ownPar, Ent.isOwn]
  refine Grow.auto rfl rfl ?_
  repeat (refine sd ?_)
  refine Call.name [(0, []), (0, []), (0, []), (0, []), (2002, [])] rfl fc (CallP.intro hW [(1003, (2002, 0, none)), (1006, (316, 0, none))] rfl fc rfl fc rfl ?_)
  rintro v M' ⟨T2, k2, n2, L2, e2, hres2, ⟨he2, hL2, rfl, rfl⟩ | ⟨he2, m2, c2, hc2, hL2, rfl, rfl⟩⟩
  all_goals
    obtain ⟨rfl, rfl, rfl, rfl, rfl⟩ := hres1.det hres2
    dsimp only [putT, afterM, newEnt, ren, renA, renS, renL, look, getM, getT, ev, evL, ofVal, cond_true, cond_false, Nat.beq_eq, act, isPar, ownPar, Ent.isOwn]
    refine Grow.auto rfl rfl ?_
    repeat (refine sd ?_)
    refine Branch.intro (fun _ => ?_) (fun h => absurd rfl h)
    repeat (refine sd ?_)
    refine Branch.intro (fun _ => ?_) (fun h => absurd ⟨rfl, rfl⟩ h)
    repeat (refine sd ?_)
  · have hSm := fn16 L1 l m1 m1 m m hL1 (Nat.le_refl _) (by omega) hm (Nat.le_refl _) (by omega) hO1 hOK
    refine Call.intro hSm [(1003, (306, 0, none)), (1004, (2002, 0, none))] rfl fc rfl fc rfl ?_
    rintro v M' ⟨rfl, rfl⟩
    dsimp only [putT, afterM, newEnt, ren, renA, renS, renL, look, getM, getT, ev, evL, ofVal, cond_true, cond_false, Nat.beq_eq, act, isPar, ownPar, Ent.isOwn]
    repeat (refine sd ?_)
    refine Ret.intro .tt [] [] rfl ?_ rfl rfl ?_ rfl ?_ rfl
    · exact fc
    · repeat' (first | (show AllP _; first | exact trivial | refine AllP.app ?_ ?_ | refine AllP.appd ?_ ?_ | refine AllP.cons ?_ ?_) | with_reducible rfl | with_reducible assumption | omega | (simp only [rng, Ix.val, addQ_eq, addI, sz4, by4, sz5, by5, sz22, by22, sz23, by23, sz24, by24, sz25, by25, sz26, by26, sz29, by29, sz30, by30, sz33, by33, sz34, by34, sz42, by42, sz50, by50, sz51, by51] <;> omega) | (simp only [rng, Ix.val, Int.toNat_natCast, mulE_eq, addQ_eq, addI, Option.getD_none, Option.getD_some, List.length_take, List.length_drop, List.length_append, List.length_set, List.length_replicate, sz4, by4, sz5, by5, sz22, by22, sz23, by23, sz24, by24, sz25, by25, sz26, by26, sz29, by29, sz30, by30, sz33, by33, sz34, by34, sz42, by42, sz50, by50, sz51, by51, *] <;> omega) | (simp only [Ix.val]; with_reducible assumption) | exact UInt8.toNat_lt _ | (apply Eq.trans; (with_reducible assumption); exact rfl) | exact rfl | exact fun _ _ => rfl)
      all_goals (rw [List.take_of_length_le (by omega)]; exact hL2)
    · exact fc
  · obtain rfl : m2 = m1 := by rw [← hL1, hL2]
    have hSm := fn16 L1 L1 m2 m2 m2 m2 hL1 (Nat.le_refl _) (by omega) hL1 (Nat.le_refl _) (by omega) hO1 hO1
    refine Call.intro hSm [(1003, (306, 0, none)), (1004, (316, 0, none))] rfl fc rfl fc rfl ?_
    rintro v M' ⟨rfl, rfl⟩
    dsimp only [putT, afterM, newEnt, ren, renA, renS, renL, look, getM, getT, ev, evL, ofVal, cond_true, cond_false, Nat.beq_eq, act, isPar, ownPar, Ent.isOwn]
    repeat (refine sd ?_)
    refine Ret.intro .tt [] [] rfl ?_ rfl rfl ?_ rfl ?_ rfl
    · exact fc
    · exact fc
    · exact fc
set_option maxRecDepth 100000 in
set_option maxHeartbeats 1000000 in
theorem chainSkipsF (P : Prop) (hP : P) (key : List UInt8) (hk : key.length = 32) (n : UInt16) (r : List UInt8) (hr : r.length = 32) (to : UInt16) (l : List Kp) (m : Nat) (hm : l.length = m) (hm2 : m ≤ maxLen) (hOK : ∀ x ∈ l, KpOK x) :
    Sx.Fn Γ.P 4 [.bool P, .agg [(32, .a8 key), (1, .u16 n)], .a8 r, .u16 to, .isl 0 m 65 [(m * 65, .arr m 65 (kpF l))]] [] (fun v _ => v = .tt) := by
  have hmx : maxLen = 9223372036854775807 := by decide
  refine fn_cut [1000006] (Γ := Γ) (fn := Try.f4) rfl rfl rfl rfl ?_
  repeat (refine sd ?_)
  refine Call.intro fn9 [] rfl trivial rfl trivial rfl ?_
  rintro v M' rfl
  dsimp only [putT, afterM, newEnt, ren, renA, renS, renL, look, getM, getT, ev, evL, ofVal, cond_true, cond_false, Nat.beq_eq, act, isPar, ownPar, Ent.isOwn]
  repeat (refine sd ?_)
  refine Branch.intro (fun hc => ?_) (fun hc => ?_)
  · repeat (refine sd ?_)
    refine Ret.intro .tt [] [] rfl ?_ rfl rfl ?_ rfl ?_ rfl
    · exact fc
    · exact fc
    · exact fc
  have hc : ¬ (m : Int) > 100 := hc
  have hS := fnSkipF [] 0 0 rfl (by omega) (Nat.le_refl _) tb0_valid key hk n r hr to l m m hm (Nat.le_refl _) (by omega) hOK
  have hW := fnRSkipF [] 0 0 rfl (by omega) (Nat.le_refl _) tb0_valid key hk n r hr to l m m hm (Nat.le_refl _) (by omega) hOK
  unfold tbM at hS
  unfold rbM at hW
  have hlt : (l.take m).length ≤ m := by rw [List.length_take]; omega
  refine Join.intro (σ := List UInt8 × UInt16 × List Kp × Int × Nat × Nat) (fun s => (∃ T1, SkRes true [] key r n to (l.take m) T1 s.1 s.2.1 s.2.2.1 s.2.2.2.1) ∧ s.2.2.1.length = s.2.2.2.2.1 ∧ s.2.2.2.2.1 ≤ s.2.2.2.2.2)
    (fun s => ([(0, .bool P), (3, .u16 to), (4, .isl 0 m 65 [(m * 65, .arr m 65 (kpF l))]), (6, .ptr 206 0 none), (7, .ptr 207 0 none), (11, .ptr 211 0 none), (12, .sl 212 0 0 s.2.2.2.2.1 s.2.2.2.2.2), (13, .i .i64 s.2.2.2.1)],
      [(206, .mem true 0 [(32, .a8 key), (1, .u16 n)]), (207, .mem true 0 [(32, .a8 r)]), (211, .mem true 0 [(32, .a8 s.1), (1, .u16 s.2.1)]), (212, .mem true (mulE (s.2.2.2.2.2 - s.2.2.2.2.1) 65) [(s.2.2.2.2.1 * 65, .arr s.2.2.2.2.1 65 (kpF s.2.2.1))])])) ?_ ?_
  · refine Draw.intro [[], [0], [], [], [], [], [0, 1, 2, 3, 4, 5], [0, 1, 2, 3, 4, 5, 6], [0, 1, 2, 3, 4, 5, 6, 7], [0, 1, 2, 3, 4, 5, 6, 7], [0, 1, 2, 3, 4, 5, 6, 7], [], [0, 1, 2, 3, 4, 5, 6, 7, 8, 11], [0, 1, 2, 3, 4, 5, 6, 7, 8, 9, 11, 12], [0, 1, 2, 3, 4, 5, 6, 7, 8, 9, 10, 11, 12, 13], [6]] [0, 2, 3, 4, 5, 11, 1, 6, 7, 8, 9, 10, 12, 13, 14] (by kernel_rfl) ?_
    repeat (refine sd ?_)
    refine Call.intro fnSuiteF [(1000, (401, 0, none)), (1001, (402, 0, none)), (1002, (403, 0, none))] rfl fc rfl trivial rfl ?_
    rintro v M' ⟨rfl, rfl⟩
    dsimp only [putT, afterM, newEnt, ren, renA, renS, renL, look, getM, getT, ev, evL, ofVal, cond_true, cond_false, Nat.beq_eq, act, isPar, ownPar, Ent.isOwn]
    refine Grow.auto rfl rfl ?_
    repeat (refine sd ?_)
    refine ⟨?_, ?_⟩
    all_goals
      repeat (refine sd ?_)
      refine Call.name [(0, []), (0, []), (0, []), (0, []), (2001, [])] rfl fc (CallP.intro hS [(1000, (401, 0, none)), (1001, (402, 0, none)), (1002, (403, 0, none)), (1005, (305, 0, none)), (1003, (2001, 0, none)), (1006, (306, 0, none))] rfl fc rfl fc rfl ?_)
      rintro v M' ⟨T1, k1, n1, L1, e1, m1, c1, nt, ct, hnt, hct, hres1, hc1, hL1, rfl, rfl⟩
      dsimp only [putT, afterM, newEnt, ren, renA, renS, renL, look, getM, getT, ev, evL, ofVal, cond_true, cond_false, Nat.beq_eq, act, isPar, ownPar, Ent.isOwn]
      obtain ⟨hk1, hO1, hLm1, _, _⟩ := hres1.info hk hr (fun x hx => hOK x (List.mem_of_mem_take hx)) tb0_valid
      repeat (refine sd ?_)
      refine ⟨(k1, n1, L1, e1, m1, c1), ⟨⟨T1, hres1⟩, hL1, hc1⟩, Le.intro [(206, (6, 0, none)), (207, (7, 0, none)), (211, (11, 0, none)), (212, (306, 0, none))] rfl ?_ rfl ?_ rfl⟩
      · exact fc
      · exact fc
  rintro ⟨k1, n1, L1, e1, m1, c1⟩ ⟨⟨T1, hres1⟩, hL1, hc1⟩
  have hres1 : SkRes true [] key r n to (l.take m) T1 k1 n1 L1 e1 := hres1
  have hL1 : L1.length = m1 := hL1
  have hc1 : m1 ≤ c1 := hc1
  obtain ⟨hk1, hO1, hLm1, _, _⟩ := hres1.info hk hr (fun x hx => hOK x (List.mem_of_mem_take hx)) tb0_valid
  refine Draw.intro [[], [0], [], [], [], [], [0, 1, 2, 3, 4, 5], [0, 1, 2, 3, 4, 5, 6], [0, 1, 2, 3, 4, 5, 6, 7], [0, 1, 2, 3, 4, 5, 6, 7], [0, 1, 2, 3, 4, 5, 6, 7], [], [0, 1, 2, 3, 4, 5, 6, 7, 8, 11], [0, 1, 2, 3, 4, 5, 6, 7, 8, 9, 11, 12], [0, 1, 2, 3, 4, 5, 6, 7, 8, 9, 10, 11, 12, 13], [6]] [0, 2, 3, 4, 5, 11, 1, 6, 7, 8, 9, 10, 12, 13, 14] (by kernel_rfl) ?_
  repeat (refine sd ?_)
  refine Call.intro fnRefF [(1000, (411, 0, none)), (1001, (412, 0, none))] rfl fc rfl trivial rfl ?_
  rintro v M' ⟨rfl, rfl⟩
  dsimp only [putT, afterM, newEnt, ren, renA, renS, renL, look, getM, getT, ev, evL, ofVal, cond_true, cond_false, Nat.beq_eq, act, isPar, ownPar, Ent.isOwn]
  refine Grow.auto rfl rfl ?_
  repeat (refine sd ?_)
  refine ⟨?_, ?_⟩
  all_goals
    repeat (refine sd ?_)
    refine Call.name [(0, []), (0, []), (0, []), (0, []), (2002, [])] rfl fc (CallP.intro hW [(1000, (411, 0, none)), (1001, (412, 0, none)), (1005, (315, 0, none)), (1003, (2002, 0, none)), (1006, (316, 0, none))] rfl fc rfl fc rfl ?_)
    rintro v M' ⟨T2, k2, n2, L2, e2, nt2, ct2, hnt2, hct2, hres2, ⟨he2, hL2, rfl, rfl⟩ | ⟨he2, m2, c2, hc2, hL2, rfl, rfl⟩⟩
    all_goals
      obtain ⟨rfl, rfl, rfl, rfl, rfl⟩ := hres1.det hres2
      dsimp only [putT, afterM, newEnt, ren, renA, renS, renL, look, getM, getT, ev, evL, ofVal, cond_true, cond_false, Nat.beq_eq, act, isPar, ownPar, Ent.isOwn]
      repeat (refine sd ?_)
      refine Branch.intro (fun _ => ?_) (fun h => absurd rfl h)
      repeat (refine sd ?_)
      refine Branch.intro (fun _ => ?_) (fun h => absurd ⟨rfl, rfl⟩ h)
      repeat (refine sd ?_)
    · have hSm := fn16 L1 l m1 m1 m m hL1 (Nat.le_refl _) (by omega) hm (Nat.le_refl _) (by omega) hO1 hOK
      refine Call.intro hSm [(1003, (212, 0, none)), (1004, (2002, 0, none))] rfl fc rfl fc rfl ?_
      rintro v M' ⟨rfl, rfl⟩
      dsimp only [putT, afterM, newEnt, ren, renA, renS, renL, look, getM, getT, ev, evL, ofVal, cond_true, cond_false, Nat.beq_eq, act, isPar, ownPar, Ent.isOwn]
      repeat (refine sd ?_)
      refine Ret.intro .tt [] [] rfl ?_ rfl rfl ?_ rfl ?_ rfl
      · exact fc
      · repeat' (first | (show AllP _; first | exact trivial | refine AllP.app ?_ ?_ | refine AllP.appd ?_ ?_ | refine AllP.cons ?_ ?_) | with_reducible rfl | with_reducible assumption | omega | (simp only [rng, Ix.val, addQ_eq, addI, sz4, by4, sz5, by5, sz22, by22, sz23, by23, sz24, by24, sz25, by25, sz26, by26, sz29, by29, sz30, by30, sz33, by33, sz34, by34, sz42, by42, sz50, by50, sz51, by51] <;> omega) | (simp only [rng, Ix.val, Int.toNat_natCast, mulE_eq, addQ_eq, addI, Option.getD_none, Option.getD_some, List.length_take, List.length_drop, List.length_append, List.length_set, List.length_replicate, sz4, by4, sz5, by5, sz22, by22, sz23, by23, sz24, by24, sz25, by25, sz26, by26, sz29, by29, sz30, by30, sz33, by33, sz34, by34, sz42, by42, sz50, by50, sz51, by51, *] <;> omega) | (simp only [Ix.val]; with_reducible assumption) | exact UInt8.toNat_lt _ | (apply Eq.trans; (with_reducible assumption); exact rfl) | exact rfl | exact fun _ _ => rfl)
        all_goals (rw [List.take_of_length_le (by omega)]; exact hL2)
      · exact fc
    · obtain rfl : m2 = m1 := by rw [← hL1, hL2]
      have hSm := fn16 L1 L1 m2 m2 m2 m2 hL1 (Nat.le_refl _) (by omega) hL1 (Nat.le_refl _) (by omega) hO1 hO1
      refine Call.intro hSm [(1003, (212, 0, none)), (1004, (316, 0, none))] rfl fc rfl fc rfl ?_
      rintro v M' ⟨rfl, rfl⟩
      dsimp only [putT, afterM, newEnt, ren, renA, renS, renL, look, getM, getT, ev, evL, ofVal, cond_true, cond_false, Nat.beq_eq, act, isPar, ownPar, Ent.isOwn]
      repeat (refine sd ?_)
      refine Ret.intro .tt [] [] rfl ?_ rfl rfl ?_ rfl ?_ rfl
      · exact fc
      · exact fc
      · exact fc
theorem chainSkips_runs (svs : List SV) (h : AllF [isBool, isOfStruct (catF [cArr8 32, cU16]), isArr8 32, isU16, isOfSl 65 zK (catF [cArr8 32, cU16, cArr8 32])] svs) : Sx.Fn Γ.P 4 svs [] (fun v _ => v = .tt) := by
  match svs, h with
  | [_, _, _, _, _], ⟨⟨b, rfl⟩, ⟨_, ⟨_, _, ⟨key, hk, rfl⟩, ⟨_, _, ⟨n0, rfl⟩, rfl, rfl⟩, rfl⟩, rfl⟩, ⟨r, hr, rfl⟩, ⟨to, rfl⟩, h5, _⟩ =>
    obtain ⟨l, hl, hOK, rfl⟩ := keptsArg h5
    by_cases hb : b = true
    · exact chainSkipsF _ hb key hk n0 r hr to l l.length rfl hl hOK
    · exact chainSkipsR _ hb key hk n0 r hr to l l.length rfl hl hOK
end Go.Proofs.Ytkhnailodbkmhaa
