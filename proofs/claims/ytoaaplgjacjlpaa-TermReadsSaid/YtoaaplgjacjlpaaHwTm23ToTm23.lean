/- What the functions of the program compute. No condition. -/
import Derived.Test.YtoaaplgjacjlpaaHwTm13ToTm13
import Derived.Test.YtoaaplgjacjlpaaHwTm19ToTm19
set_option linter.unusedSimpArgs false
set_option linter.unusedVariables false
namespace Go.Proofs.Ytoaaplgjacjlpaa
open Go Go.Sx

/-! term.Table.In. -/

def kyF (l : List Nat) (q : Nat) : List (Nat × SV) := [(32, .a8 (nameB (l.getD q 0)))]

set_option maxRecDepth 100000 in
set_option maxHeartbeats 1000000 in
theorem fn19 (n : Nat) (hn : n ≤ 60000) (b : List UInt8) (m : Nat) (hb : b.length = m) (hm : m ≤ 1000000) :
    Sx.Fn Γ.P 19 [.ptr 1000 0 none, .slx 1003 0 0 m] [(1000, .mem false 0 [(1, .slx 1001 0 0 n), (1, .mp 1002)]), (1001, .dead), (1002, .dead), (1003, .mem false 0 [(m, .a8 b)])]
    (fun v M => ∃ k c, (inL b n 0).length = k ∧ k ≤ c ∧ v = .sl 1005 0 0 k c ∧ M = [(1000, .mem false 0 [(1, .slx 1001 0 0 n), (1, .mp 1002)]), (1001, .dead), (1002, .dead), (1003, .mem false 0 [(m, .a8 b)]), (1005, .mem true (mulE (c - k) 32) [(k * 32, .arr k 32 (kyF (inL b n 0)))])]) := by
  have hI := fn25 b m hb n (by omega) hm
  obtain ⟨l, hl⟩ : ∃ l, inL b n 0 = l := ⟨_, rfl⟩
  have hle : ∀ z ∈ l, 1 ≤ z ∧ z ≤ n := fun z hz => by rw [← hl] at hz; exact inL_le hz
  have hl6 : l.length ≤ 1000001 := by rw [← hl]; have := inL_len b n 0; omega
  rw [hl] at hI ⊢
  have htl := toI_len l
  have hby49 : (Γ.ty 49).bytes = 32 := rfl
  refine fn_of (Γ := Γ) (fn := Try.f19) rfl rfl rfl rfl ?_
  repeat (refine sd ?_)
  refine Call.intro hI [(1003, (1003, 0, none)), (1001, (301, 0, none))] rfl fc rfl fc rfl ?_
  rintro v M' ⟨l2, cl, rfl, hlc, rfl, rfl⟩
  dsimp only [putT, afterM, newEnt, ren, renA, renS, renL, look, getM, getT, ev, evL, ofVal, cond_true, cond_false, Nat.beq_eq, act, isPar, ownPar, Ent.isOwn]
  repeat (refine sd ?_)
  refine Loop.intro (σ := Nat × Nat) (fun s => s.1 ≤ l.length ∧ s.1 ≤ s.2)
    (fun s => ([(5, .sl 205 0 0 s.1 s.2), (14, .sl 301 0 0 l.length cl), (15, .i .i64 (l.length : Int)), (16, .i .i64 (s.1 : Int))],
      [(1000, .mem false 0 [(1, .slx 1001 0 0 n), (1, .mp 1002)]), (1001, .dead), (1002, .dead), (1003, .mem false 0 [(m, .a8 b)]), (301, .mem true (cl - l.length) [(l.length, .ai (toI l))]), (205, .mem true (mulE (s.2 - s.1) 32) [(s.1 * 32, .arr s.1 32 (kyF l))])]))
    (fun s => l.length - s.1) (0, 0) ⟨Nat.zero_le _, Nat.le_refl _⟩ ?_ ?_
  · refine Le.ghost [.own 205 [(0, .arr 0 32 (kyF l))]] [(5, 205)] [] rfl ⟨rfl, rfl, trivial⟩ rfl rfl ?_ rfl ?_ rfl
    · exact fc
    · exact fc
  rintro ⟨i, c⟩ ⟨hi, hic⟩
  have hi : i ≤ l.length := hi
  have hic : i ≤ c := hic
  refine Branch.intro (fun hc => ?_) (fun hc => ?_)
  · have hc : (i : Int) < l.length := hc
    have hg := toI_getD l (i := i) (by omega)
    have hz1 := hle _ (getD_mem 0 (L := l) (i := i) (by omega))
    obtain ⟨z, hz⟩ : ∃ z, l.getD i 0 = z := ⟨_, rfl⟩
    rw [hz] at hg hz1
    have hN := fn31 z (by omega)
    have hnl := nameB_length z
    repeat (refine Side.intro (by repeat' (first | (show AllP _; first | exact trivial | refine AllP.app ?_ ?_ | refine AllP.appd ?_ ?_ | refine AllP.cons ?_ ?_) | with_reducible rfl | with_reducible assumption | omega | (simp only [Nat.zero_add, Int.toNat_natCast, hg, rng, Ix.val, addQ_eq, addI, sz3, sz5, sz9, sz33, sz34, sz42, sz49, sz59, sz67, sz68, sz69, sz78, sz90] <;> omega) | (simp only [Nat.zero_add, Int.toNat_natCast, hg, rng, Ix.val, Int.toNat_natCast, mulE_eq, addQ_eq, addI, Option.getD_none, Option.getD_some, List.length_take, List.length_drop, List.length_append, List.length_set, List.length_replicate, sz3, sz5, sz9, sz33, sz34, sz42, sz49, sz59, sz67, sz68, sz69, sz78, sz90, *] <;> omega) | (simp only [Ix.val]; with_reducible assumption) | exact UInt8.toNat_lt _ | (apply Eq.trans; (with_reducible assumption); exact rfl) | exact rfl | exact fun _ _ => rfl)) ?_)
    refine Call.intro hN [] rfl ?_ rfl trivial rfl ?_
    · repeat' (first | (show AllP _; first | exact trivial | refine AllP.app ?_ ?_ | refine AllP.appd ?_ ?_ | refine AllP.cons ?_ ?_) | with_reducible rfl | with_reducible assumption | omega | (simp only [Nat.zero_add, Int.toNat_natCast, hg, rng, Ix.val, addQ_eq, addI, sz3, sz5, sz9, sz33, sz34, sz42, sz49, sz59, sz67, sz68, sz69, sz78, sz90] <;> omega) | (simp only [Nat.zero_add, Int.toNat_natCast, hg, rng, Ix.val, Int.toNat_natCast, mulE_eq, addQ_eq, addI, Option.getD_none, Option.getD_some, List.length_take, List.length_drop, List.length_append, List.length_set, List.length_replicate, sz3, sz5, sz9, sz33, sz34, sz42, sz49, sz59, sz67, sz68, sz69, sz78, sz90, *] <;> omega) | (simp only [Ix.val]; with_reducible assumption) | exact UInt8.toNat_lt _ | (apply Eq.trans; (with_reducible assumption); exact rfl) | exact rfl | exact fun _ _ => rfl)
    rintro v M' ⟨rfl, rfl⟩
    dsimp only [putT, afterM, newEnt, ren, renA, renS, renL, look, getM, getT, ev, evL, ofVal, cond_true, cond_false, Nat.beq_eq, act, isPar, ownPar, Ent.isOwn]
    repeat (refine sd ?_)
    refine fun c4 hc4 => ?_
    have hc4 : i + 1 ≤ c4 := hc4
    repeat (refine sdn ?_)
    refine ⟨(i + 1, c4), ⟨by show i + 1 ≤ l.length; omega, hc4⟩, by show l.length - (i + 1) < l.length - i; omega, Le.intro [(205, (24, 0, none))] rfl ?_ rfl ?_ rfl⟩
    · exact fcn
    · repeat' (first | (show AllP _; first | exact trivial | refine AllP.app ?_ ?_ | refine AllP.appd ?_ ?_ | refine AllP.cons ?_ ?_) | with_reducible rfl | with_reducible assumption | omega | (simp only [Nat.zero_add, Int.toNat_natCast, rng, Ix.val, addQ_eq, addI, sz3, sz5, sz9, sz33, sz34, sz42, sz49, sz59, sz67, sz68, sz69, sz78, sz90] <;> omega) | (simp only [Nat.zero_add, Int.toNat_natCast, rng, Ix.val, Int.toNat_natCast, mulE_eq, addQ_eq, addI, Option.getD_none, Option.getD_some, List.length_take, List.length_drop, List.length_append, List.length_set, List.length_replicate, sz3, sz5, sz9, sz33, sz34, sz42, sz49, sz59, sz67, sz68, sz69, sz78, sz90, *] <;> omega) | (simp only [Ix.val]; with_reducible assumption) | exact UInt8.toNat_lt _ | (apply Eq.trans; (with_reducible assumption); exact rfl) | exact rfl | exact fun _ _ => rfl)
      subst hz
      exact appF_row (fun q _ => rfl) rfl
  · have hc : ¬ (i : Int) < l.length := hc
    obtain rfl : i = l.length := by omega
    repeat (refine sd ?_)
    refine Ret.intro (.sl 1005 0 0 l.length c) [(1000, .mem false 0 [(1, .slx 1001 0 0 n), (1, .mp 1002)]), (1001, .dead), (1002, .dead), (1003, .mem false 0 [(m, .a8 b)]), (1005, .mem true (mulE (c - l.length) 32) [(l.length * 32, .arr l.length 32 (kyF l))])] [(1005, (205, 0, none))] rfl ?_ ⟨l.length, c, rfl, hic, rfl, rfl⟩ rfl ?_ rfl ?_ rfl
    · exact fc
    · exact fc
    · exact fc

end Go.Proofs.Ytoaaplgjacjlpaa
