/- What the functions of the program compute. No condition. -/
import Derived.Test.YtkhnailodbkmhaaHwCh15ToCh15
import Derived.Test.YtkhnailodbkmhaaHx7
set_option linter.unusedSimpArgs false
set_option linter.unusedVariables false
namespace Go.Proofs.Ytkhnailodbkmhaa
open Go Go.Sx
def zK : List (Nat × SV) := [(32, .a8 (List.replicate 32 0)), (1, .u16 0), (32, .a8 (List.replicate 32 0))]
theorem kept_of {ls : List (Nat × SV)} (h : catF [cArr8 32, cU16, cArr8 32] ls) : ∃ x : Kp, KpOK x ∧ ls = rowK x := by
  obtain ⟨_, _, ⟨a, h1, rfl⟩, ⟨_, _, ⟨n, rfl⟩, ⟨_, _, ⟨b, h2, rfl⟩, rfl, rfl⟩, rfl⟩, rfl⟩ := h
  exact ⟨(a, n, b), ⟨h1, h2⟩, rfl⟩
theorem keptsArg {s : SV} (h : isOfSl 65 zK (catF [cArr8 32, cU16, cArr8 32]) s) : ∃ l : List Kp, l.length ≤ maxLen ∧ (∀ x ∈ l, KpOK x) ∧ s = .isl 0 l.length 65 [(l.length * 65, .arr l.length 65 (kpF l))] := by
  obtain ⟨n, L, h1, h2, h3, rfl⟩ := h
  obtain ⟨l, h4, h5, rfl⟩ := rows_list rowK kp0 KpOK (fun q hq => kept_of (h1 q hq)) h2
  subst h4
  exact ⟨l, h3, h5, rfl⟩
theorem SkRes.info {fr : Bool} {T : List Te} {key : List UInt8} {r : List UInt8} {n to : UInt16} {l : List Kp} {T' : List Te} {k' : List UInt8} {n' : UInt16} {L' : List Kp} {e : Int} (h : SkRes fr T key r n to l T' k' n' L' e)
    (hk : key.length = 32) (hr : r.length = 32) (hl : ∀ x ∈ l, KpOK x) (hT : ∀ x ∈ T, Valid x.1 x.2) :
    k'.length = 32 ∧ (∀ x ∈ L', KpOK x) ∧ L'.length ≤ l.length + 16 ∧ (∀ x ∈ T', Valid x.1 x.2) ∧ T'.length ≤ T.length + 40 := by
  rcases h with ⟨a1, rfl, rfl, rfl, rfl, rfl⟩ | ⟨a1, a2, rfl, rfl, rfl, rfl, rfl⟩ | ⟨a1, a2, ⟨i, a3, a4, a5, rfl⟩, rfl, rfl, rfl, rfl⟩ | ⟨a1, a2, a3, rfl, rfl, rfl, rfl, rfl⟩
  · exact ⟨hk, hl, by omega, hT, by omega⟩
  · exact ⟨hk, hl, by omega, hT, by omega⟩
  · exact ⟨hk, hl, by omega, skA_valid fr hT _ _, by have := skA_tlen fr T k' (i + 1); omega⟩
  · refine ⟨skA_klen fr T hk _, skP_ok fr T key hr n hl _, by rw [skP_len]; omega, skA_valid fr hT _ _, ?_⟩
    have := skA_tlen fr T key (n'.toNat - n.toNat)
    omega
end Go.Proofs.Ytkhnailodbkmhaa
