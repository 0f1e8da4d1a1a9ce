/- What the functions of the program compute. No condition. -/
import Derived.Test.YtfnmgbillkiabaaGreatHwRa8ToRy2
set_option linter.unusedSimpArgs false
set_option linter.unusedVariables false
set_option maxRecDepth 100000
namespace Go.Proofs.YtfnmgbillkiabaaGreat
open Go Go.Sx
def nxG (L:List (List UInt8)) (k size:Nat):Prop:=k < L.length/\(L.getD k []).length = size
instance (L:List (List UInt8)) (k size:Nat):Decidable (nxG L k size):=inferInstanceAs (Decidable (_/\_))
def nxX (L:List (List UInt8)) (k size:Nat):List UInt8:=if nxG L k size then L.getD k [] else List.replicate size 0
def nxS (L:List (List UInt8)) (k size:Nat):Nat:=if nxG L k size then k + 1 else k
theorem fnCloneB (b:List UInt8) (n i m:Nat) (hb:b.length = n) (hm:i + m <= n) (hn:n <= 1000000) :
  Sx.Fn Γ.P 108 [.isl i m 1 [(n,.a8 b)]] [] (fun v M=>∃ c,m <= c/\v = .sl 1006 0 0 m c/\M = [(1006,.mem true (c - m) [(m,.a8 ((b.drop i).take m))])]):=by
 refine fn_of (Γ:=Γ) (fn:=Tryz.f108) rfl rfl rfl rfl ?_
 repeat (refine sd ?_)
 refine fun p hp=>?_
 repeat (refine sd ?_)
 refine zB.intro (fun hc=>?_) (fun hc=>?_)
 ·have h0:m = 0:=by
   rcases Nat.eq_zero_or_pos m with h | h
   ·exact h
   ·exact absurd hc (hp h)
  subst h0
  repeat (refine sd ?_)
  refine Ret.ghost [.own 450 [(0,.a8 [])]] [(2,450)] rfl ⟨rfl,rfl,trivial⟩ rfl (.sl 1006 0 0 0 0) [(1006,.mem true (0 - 0) [(0,.a8 ((b.drop i).take 0))])] [(1006,(450,0,none))] rfl ?_ ⟨0,Nat.le_refl _,rfl,rfl⟩ rfl ?_ rfl ?_ rfl
  ·exact fc
  ·exact fc
  ·exact fc
 ·repeat (refine sd ?_)
  refine fun c hc=>?_
  have hc:0 + m <= c:=hc
  have hl:((b.drop i).take m).length = m:=by rw [zlT,zlD];omega
  repeat (refine sd ?_)
  refine Ret.intro (.sl 1006 0 0 m c) [(1006,.mem true (c - m) [(m,.a8 ((b.drop i).take m))])] [(1006,(7,0,none))] rfl ?_ ⟨c,by omega,rfl,rfl⟩ rfl ?_ rfl ?_ rfl
  ·exact fc
  ·exact fc
  ·exact fc
end Go.Proofs.YtfnmgbillkiabaaGreat
