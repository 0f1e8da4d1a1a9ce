/- What the functions of the program compute. No condition. -/
import Derived.Test.YtpkllkbmoodniaaHwTm6ToTm8
set_option linter.unusedSimpArgs false
set_option linter.unusedVariables false
namespace Go.Proofs.Ytpkllkbmoodniaa
open Go Go.Sx
theorem ofNat8_inj {a b:Nat} (ha:a < 256) (hb:b < 256) (h:UInt8.ofNat a = UInt8.ofNat b):a = b:=by
 have:=congrArg UInt8.toNat h
 rw [UInt8.toNat_ofNat',UInt8.toNat_ofNat',Nat.mod_eq_of_lt (by omega),Nat.mod_eq_of_lt (by omega)] at this
 exact this
theorem ofNat8_mod {a b:Nat} (h:UInt8.ofNat a = UInt8.ofNat b):a % 256 = b % 256:=by
 have:=congrArg UInt8.toNat h
 rw [UInt8.toNat_ofNat',UInt8.toNat_ofNat'] at this
 exact this
theorem jnR_inj:∀ (L K:List (List UInt8)) (s t:List UInt8),L.length = K.length→(∀ x ∈ L,x.length ≤ 4096)→(∀ x ∈ K,x.length ≤ 4096)→jnR L ++ s = jnR K ++ t→L = K∧s = t
 | [],[],s,t,_,_,_,h=>⟨rfl,h⟩
 | [],_ :: _,_,_,h,_,_,_=>by simp at h
 | _ :: _,[],_,_,h,_,_,_=>by simp at h
 | x :: r,y :: q,s,t,hl,hx,hy,h=>by
  have hxl:=hx x (List.mem_cons_self ..)
  have hyl:=hy y (List.mem_cons_self ..)
  simp only [jnR,List.cons_append,List.nil_append,List.append_assoc,List.cons.injEq] at h
  obtain ⟨h1,h2,h3⟩:=h
  have e1:=ofNat8_mod h1
  have e2:=ofNat8_mod h2
  have hlen:x.length = y.length:=by omega
  have hxy:x = y∧jnR r ++ s = jnR q ++ t:=List.append_inj h3 hlen
  obtain ⟨h4,h5⟩:=jnR_inj r q s t (by simpa using hl) (fun z hz=>hx z (List.mem_cons_of_mem _ hz)) (fun z hz=>hy z (List.mem_cons_of_mem _ hz)) hxy.2
  exact ⟨by rw [hxy.1,h4],h5⟩
@[irreducible] def keyT (x:Te):List UInt8:=jnB x.2 ++ [UInt8.ofInt x.1]
theorem keyT_eq (x:Te):keyT x = jnB x.2 ++ [UInt8.ofInt x.1]:=by unfold keyT;rfl
theorem kind_inj {a b:Int} (ha:1 ≤ a∧a ≤ 8) (hb:1 ≤ b∧b ≤ 8) (h:UInt8.ofInt a = UInt8.ofInt b):a = b:=by
 obtain ⟨n,rfl⟩:∃ n:Nat,a = n:=⟨a.toNat,by omega⟩
 obtain ⟨m,rfl⟩:∃ m:Nat,b = m:=⟨b.toNat,by omega⟩
 rw [ofInt8_nat,ofInt8_nat] at h
 rw [ofNat8_inj (by omega) (by omega) h]
theorem keyT_inj {x y:Te} (hx:Valid x.1 x.2) (hy:Valid y.1 y.2) (h:keyT x = keyT y):x = y:=by
 rw [keyT_eq,keyT_eq,jnB_eq,jnB_eq,List.cons_append,List.cons_append,List.cons.injEq] at h
 have h1:x.2.length = y.2.length:=ofNat8_inj (by have:=hx.1.1;omega) (by have:=hy.1.1;omega) h.1
 obtain ⟨h2,h3⟩:=jnR_inj _ _ _ _ h1 hx.1.2 hy.1.2 h.2
 exact Prod.ext (kind_inj hx.2 hy.2 (by simpa using h3)) h2
def mpF:Nat→List Te→List (List UInt8 × Int)
 | _,[]=>[]
 | i,x :: r=>(keyT x,((i + 1:Nat):Int)) :: mpF (i + 1) r
@[irreducible] def mpL (T:List Te):List (List UInt8 × Int):=mpF 0 T
theorem mpF_app:∀ (i:Nat) (T:List Te) (x:Te),mpF i (T ++ [x]) = mpF i T ++ [(keyT x,((i + T.length + 1:Nat):Int))]
 | i,[],x=>rfl
 | i,y :: r,x=>by
  show _ :: mpF (i + 1) (r ++ [x]) = _ :: (mpF (i + 1) r ++ _)
  rw [mpF_app (i + 1) r x]
  simp only [List.length_cons]
  rw [show i + 1 + r.length + 1 = i + (r.length + 1) + 1 by omega]
theorem mpL_app (T:List Te) (x:Te):mpL (T ++ [x]) = mpL T ++ [(keyT x,((T.length + 1:Nat):Int))]:=by
 unfold mpL;rw [mpF_app,Nat.zero_add]
theorem mpL_nil:mpL [] = []:=by unfold mpL;rfl
theorem mpF_get {x:Te} (hx:Valid x.1 x.2):∀ (i:Nat) (T:List Te),(∀ y ∈ T,Valid y.1 y.2)→mpGet (mpF i T) (keyT x) = if fdT x T = 0 then none else some ((i + fdT x T:Nat):Int)
 | i,[],_=>rfl
 | i,y :: r,h=>by
  have ih:=mpF_get hx (i + 1) r (fun z hz=>h z (List.mem_cons_of_mem _ hz))
  by_cases hxy:y = x
  ·subst hxy
   simp only [mpF,mpGet,fdT,if_true]
   rfl
  ·have hk:keyT x ≠ keyT y:=fun e=>hxy (keyT_inj hx (h y (List.mem_cons_self ..)) e).symm
   have h1:mpGet (mpF i (y :: r)) (keyT x) = mpGet (mpF (i + 1) r) (keyT x):=by
    show (if keyT x = keyT y then _ else _) = _
    rw [if_neg hk]
   rw [h1,ih]
   cases hf:fdT x r with
   | zero=>
    have h2:fdT x (y :: r) = 0:=by unfold fdT;rw [if_neg hxy,hf]
    rw [h2,if_pos rfl,if_pos rfl]
   | succ j=>
    have h2:fdT x (y :: r) = j + 2:=by unfold fdT;rw [if_neg hxy,hf]
    rw [h2,if_neg (by omega),if_neg (by omega)]
    congr 1
    omega
theorem mpL_none {T:List Te} {x:Te} (hx:Valid x.1 x.2) (h:∀ y ∈ T,Valid y.1 y.2) (hf:fdT x T = 0):mpGet (mpL T) (keyT x) = none:=by
 unfold mpL;rw [mpF_get hx 0 T h,if_pos hf]
theorem mpL_some {T:List Te} {x:Te} {i:Nat} (hx:Valid x.1 x.2) (h:∀ y ∈ T,Valid y.1 y.2) (hf:fdT x T = i + 1):mpGet (mpL T) (keyT x) = some ((i + 1:Nat):Int):=by
 unfold mpL;rw [mpF_get hx 0 T h,hf,if_neg (by omega),Nat.zero_add]
theorem mkT_valid {T:List Te} {x:Te} (h:∀ y ∈ T,Valid y.1 y.2):∀ y ∈ (mkT T x).1,Valid y.1 y.2:=by
 by_cases hV:Valid x.1 x.2
 ·cases hf:fdT x T with
  | zero=>
   rw [mkT_new hV hf]
   intro y hy
   rcases List.mem_append.1 hy with hy | hy
   ·exact h y hy
   ·obtain rfl:y = x:=by simpa using hy
    exact hV
  | succ i=>rw [mkT_old hV hf];exact h
 ·rw [mkT_no hV];exact h
theorem mkT_len (T:List Te) (x:Te):T.length ≤ (mkT T x).1.length∧(mkT T x).1.length ≤ T.length + 1:=by
 by_cases hV:Valid x.1 x.2
 ·cases hf:fdT x T with
  | zero=>rw [mkT_new hV hf];simp
  | succ i=>rw [mkT_old hV hf];simp
 ·rw [mkT_no hV];simp
end Go.Proofs.Ytpkllkbmoodniaa
