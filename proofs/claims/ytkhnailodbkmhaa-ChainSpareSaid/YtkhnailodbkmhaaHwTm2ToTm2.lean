/- What the functions of the program compute. No condition. -/
import Derived.Test.YtkhnailodbkmhaaHwTm1ToTm1
set_option linter.unusedSimpArgs false
set_option linter.unusedVariables false
namespace Go.Proofs.Ytkhnailodbkmhaa
open Go Go.Sx
theorem ofInt_toNat {n : Nat} (h : n < 18446744073709551616) : (UInt64.ofInt (n : Int)).toNat = n := by
  have e : UInt64.ofInt (n : Int) = UInt64.ofNat n := by
    unfold UInt64.ofInt
    congr 1; omega
  rw [e, UInt64.toNat_ofNat', Nat.mod_eq_of_lt (by omega)]
theorem shr_zero {x : UInt64} {k : Nat} (h : x.toNat / 2 ^ k = 0) : shr64 x k = 0 := by
  rw [shr64, Nat.shiftRight_eq_div_pow, h]; rfl
theorem four {b : List UInt8} (h : b.length = 4) : ∃ b0 b1 b2 b3, b = [b0, b1, b2, b3] := by
  rcases b with _ | ⟨b0, _ | ⟨b1, _ | ⟨b2, _ | ⟨b3, _ | ⟨b4, r⟩⟩⟩⟩⟩ <;> simp at h
  exact ⟨b0, b1, b2, b3, rfl⟩
@[irreducible] def nameB (n : Nat) : List UInt8 := [UInt8.ofNat 116, UInt8.ofNat 101, UInt8.ofNat 114, UInt8.ofNat 109] ++ (putB n 4 ++ List.replicate 24 0)
theorem nameB_eq (n : Nat) : nameB n = [UInt8.ofNat 116, UInt8.ofNat 101, UInt8.ofNat 114, UInt8.ofNat 109] ++ (putB n 4 ++ List.replicate 24 0) := by unfold nameB; rfl
theorem nameB_length (n : Nat) : (nameB n).length = 32 := by rw [nameB_eq]; simp [putB_length]
set_option maxRecDepth 100000 in
theorem fn36 (n : Nat) (hn : n < 4294967296) : Sx.Fn Γ.P 36 [.i .i64 (n : Int)] [] (fun v M => v = .a8 (nameB n) ∧ M = []) := by
  have hN := fn46 (UInt64.ofInt (n : Int)) 4 (by decide) (by decide) (fun _ => shr_zero (by rw [ofInt_toNat (by omega)]; omega))
  rw [ofInt_toNat (by omega)] at hN
  have hl := putB_length n 4
  have he := nameB_eq n
  generalize putB n 4 = b at hN hl he
  obtain ⟨b0, b1, b2, b3, rfl⟩ := four hl
  refine fn_of (Γ := Γ) (fn := Try.f36) rfl rfl rfl rfl ?_
  repeat (refine sd ?_)
  refine Call.intro hN [(1001, (11, 0, none))] rfl fc rfl fc rfl ?_
  rintro v M' ⟨rfl, rfl⟩
  repeat (refine sd ?_)
  refine Ret.intro (.a8 (nameB n)) [] [] rfl ?_ ⟨rfl, rfl⟩ rfl ?_ rfl trivial rfl
  · exact fc
  · repeat' (first | (show AllP _; first | exact trivial | refine AllP.app ?_ ?_ | refine AllP.appd ?_ ?_ | refine AllP.cons ?_ ?_) | with_reducible rfl | with_reducible assumption | omega | (simp only [rng, Ix.val, addQ_eq, addI, sz3, by3, sz5, by5, sz9, by9, sz22, by22, sz23, by23, sz69, by69, sz108, by108] <;> omega) | (simp only [rng, Ix.val, Int.toNat_natCast, mulE_eq, addQ_eq, addI, Option.getD_none, Option.getD_some, List.length_take, List.length_drop, List.length_append, List.length_set, List.length_replicate, sz3, by3, sz5, by5, sz9, by9, sz22, by22, sz23, by23, sz69, by69, sz108, by108, *] <;> omega) | (simp only [Ix.val]; with_reducible assumption) | exact UInt8.toNat_lt _ | (apply Eq.trans; (with_reducible assumption); exact rfl) | exact rfl | exact fun _ _ => rfl)
    all_goals (rw [he]; exact rfl)
end Go.Proofs.Ytkhnailodbkmhaa
