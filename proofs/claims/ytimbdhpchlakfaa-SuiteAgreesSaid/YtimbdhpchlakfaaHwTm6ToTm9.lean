/- What the functions of the program compute. No condition. -/
import Derived.Test.YtimbdhpchlakfaaHwTm3ToTm5
import Derived.Test.YtimbdhpchlakfaaHx8
set_option linter.unusedSimpArgs false
set_option linter.unusedVariables false
namespace Go.Proofs.Ytimbdhpchlakfaa
open Go Go.Sx
def rwF (L:List (List UInt8)) (q:Nat):List (Nat × SV):=[(1,.isl 0 (L.getD q []).length 1 [((L.getD q []).length * 1,.a8 (L.getD q []))])]
def rwS (n:Nat) (L:List (List UInt8)):List (Nat × SV):=[(n * 1,.arr n 1 (rwF L))]
def jnR:List (List UInt8)→List UInt8
 | []=>[]
 | x :: r=>[UInt8.ofNat (x.length / 256),UInt8.ofNat x.length] ++ x ++ jnR r
@[irreducible] def jnB (L:List (List UInt8)):List UInt8:=UInt8.ofNat L.length :: jnR L
theorem jnB_eq (L:List (List UInt8)):jnB L = UInt8.ofNat L.length :: jnR L:=by unfold jnB;rfl
theorem jnR_app:∀ (L M:List (List UInt8)),jnR (L ++ M) = jnR L ++ jnR M
 | [],M=>rfl
 | x :: r,M=>by
  show [_,_] ++ x ++ jnR (r ++ M) = [_,_] ++ x ++ jnR r ++ jnR M
  rw [jnR_app r M,List.append_assoc ([_,_] ++ x)]
theorem take_succ_getD {α:Type} (d:α):∀ (L:List α) (i:Nat),i < L.length→L.take (i + 1) = L.take i ++ [L.getD i d]
 | x :: r,0,_=>rfl
 | x :: r,i + 1,h=>by
  show x :: r.take (i + 1) = x :: (r.take i ++ [r.getD i d])
  rw [take_succ_getD d r i (by simpa using h)]
@[irreducible] def jnT (L:List (List UInt8)) (i:Nat):List UInt8:=UInt8.ofNat L.length :: jnR (L.take i)
theorem jnT_zero (L:List (List UInt8)):jnT L 0 = [UInt8.ofNat L.length]:=by unfold jnT;rfl
theorem jnT_succ {L:List (List UInt8)} {i:Nat} (h:i < L.length):jnT L (i + 1) = (jnT L i ++ [UInt8.ofNat ((L.getD i []).length / 256),UInt8.ofNat (L.getD i []).length]) ++ L.getD i []:=by
 unfold jnT
 rw [take_succ_getD [] L i h,jnR_app]
 show _ :: (jnR (L.take i) ++ ([_,_] ++ L.getD i [] ++ [])) = _ :: (jnR (L.take i) ++ _) ++ _
 simp
theorem jnT_all (L:List (List UInt8)):jnT L L.length = jnB L:=by unfold jnT jnB;rw [List.take_length]
theorem jnR_le:∀ (L:List (List UInt8)),(∀ x ∈ L,x.length ≤ 4096)→(jnR L).length ≤ 4098 * L.length
 | [],_=>Nat.zero_le _
 | x :: r,h=>by
  have h1:=jnR_le r (fun y hy=>h y (List.mem_cons_of_mem _ hy))
  have h2:=h x (List.mem_cons_self ..)
  show ([_,_] ++ x ++ jnR r).length ≤ 4098 * (r.length + 1)
  simp only [List.length_append,List.length_cons,List.length_nil]
  omega
theorem jnB_le {L:List (List UInt8)} (h:∀ x ∈ L,x.length ≤ 4096):(jnB L).length ≤ 4098 * L.length + 1:=by
 rw [jnB_eq];have:=jnR_le L h;simp only [List.length_cons];omega
theorem jnT_le {L:List (List UInt8)} (i:Nat) (h:∀ x ∈ L.take i,x.length ≤ 4096) (hi:i ≤ L.length):(jnT L i).length ≤ 4098 * i + 1:=by
 unfold jnT
 have:=jnR_le _ h
 rw [List.length_take] at this
 simp only [List.length_cons];omega
def Joins (L:List (List UInt8)):Prop:=L.length ≤ 64∧∀ x ∈ L,x.length ≤ 4096
instance (L:List (List UInt8)):Decidable (Joins L):=inferInstanceAs (Decidable (_∧_))
theorem getD_mem {α:Type} (d:α) {L:List α} {i:Nat} (h:i < L.length):L.getD i d ∈ L:=by
 rw [List.getD_eq_getElem?_getD,List.getElem?_eq_getElem h]
 exact List.getElem_mem h
theorem ofInt8_nat (i:Nat):UInt8.ofInt (i:Int) = UInt8.ofNat i:=by
 apply UInt8.toNat_inj.1
 simp [UInt8.ofInt]
 try omega
theorem shr8_byte (m:Nat) (h:m ≤ 4096):UInt8.ofInt ((m:Int) / 2 ^ 8) = UInt8.ofNat (m / 256):=by
 have:(m:Int) / 2 ^ 8 = ((m / 256:Nat):Int):=by omega
 rw [this]
 exact ofInt8_nat _
set_option maxRecDepth 100000 in
set_option maxHeartbeats 1000000 in
theorem fn33 (L:List (List UInt8)) (n:Nat) (hn:L.length = n) (hn1:n ≤ 1000000) (hL:∀ x ∈ L,x.length ≤ 1000000):Sx.Fn Γ.P 33 [.slx 1003 0 0 n] [(1003,.mem false 0 (rwS n L))]
  (fun v M=>(¬ Joins L∧v = .tup [.nsl,.ff]∧M = [(1003,.mem false 0 (rwS n L))]) ∨ ∃ c N,Joins L∧(jnB L).length = N∧N ≤ c∧v = .tup [.sl 1001 0 0 N c,.tt]∧M = [(1003,.mem false 0 (rwS n L)),(1001,.mem true (c - N) [(N,.a8 (jnB L))])]):=by
 unfold rwS rwF
 refine fn_of (Γ:=Γ) (fn:=Try.f33) rfl rfl rfl rfl ?_
 repeat (refine sd ?_)
 refine Branch.intro (fun hc=>?_) (fun hc=>?_)
 ·have hc:(n:Int) > 64:=hc
  repeat (refine sd ?_)
  refine Ret.intro (.tup [.nsl,.ff]) [(1003,.mem false 0 [(n * 1,.arr n 1 (rwF L))])] [] rfl trivial (Or.inl ⟨fun h=>by have:=h.1;omega,rfl,rfl⟩) rfl ?_ rfl ?_ rfl
  ·exact fc
  ·exact fc
 have hc:¬ (n:Int) > 64:=hc
 have hz:=jnT_zero L
 have hn8:=ofInt8_nat n
 repeat (refine sd ?_)
 refine Loop.intro (σ:=Nat × Nat × Nat) (fun s=>s.1 ≤ n∧(jnT L s.1).length = s.2.1∧s.2.1 ≤ s.2.2∧∀ x ∈ L.take s.1,x.length ≤ 4096)
  (fun s=>([(4,.sl 204 0 0 s.2.1 s.2.2),(14,.slx 1003 0 0 n),(15,.i .i64 (n:Int)),(16,.i .i64 (s.1:Int))],[(1003,.mem false 0 [(n * 1,.arr n 1 (rwF L))]),(204,.mem true (s.2.2 - s.2.1) [(s.2.1,.a8 (jnT L s.1))])]))
  (fun s=>n - s.1) (0,1,1) ⟨Nat.zero_le _,by show (jnT L 0).length = 1;rw [hz];rfl,Nat.le_refl _,fun x h=>by cases h⟩ ?_ ?_
 ·refine Le.intro [(204,(13,0,none))] rfl ?_ rfl ?_ rfl
  ·exact fc
  ·repeat' (first | (show AllP _;first | exact trivial | refine AllP.app ?_ ?_ | refine AllP.appd ?_ ?_ | refine AllP.cons ?_ ?_) | exact fd | fail)
   all_goals (rw [hz,← hn,← ofInt8_nat];subst hn;exact rfl)
 rintro ⟨i,N,c⟩ ⟨hi,hN,hNc,hT⟩
 have hi:i ≤ n:=hi
 have hN:(jnT L i).length = N:=hN
 have hNc:N ≤ c:=hNc
 have hT:∀ x ∈ L.take i,x.length ≤ 4096:=hT
 have hle:=jnT_le i hT (by omega)
 refine Branch.intro (fun hc=>?_) (fun hc=>?_)
 ·have hc:(i:Int) < n:=hc
  repeat (refine sdn ?_)
  obtain ⟨m,hm⟩:∃ m,(L.getD i []).length = m:=⟨_,rfl⟩
  have hmem:=getD_mem [] (L:=L) (i:=i) (by omega)
  have hm6:m ≤ 1000000:=by rw [← hm];exact hL _ hmem
  refine Branch.intro (fun hc2=>?_) (fun hc2=>?_)
  ·have hc2:((L.getD (addQ 0 (Int.toNat (i:Int))) []).length:Int) > 4096:=hc2
   rw [addQ_eq,Nat.zero_add,Int.toNat_natCast,hm] at hc2
   repeat (refine sd ?_)
   refine Ret.intro (.tup [.nsl,.ff]) [(1003,.mem false 0 [(n * 1,.arr n 1 (rwF L))])] [] rfl trivial (Or.inl ⟨fun h=>by have:=h.2 _ hmem;omega,rfl,rfl⟩) rfl ?_ rfl ?_ rfl
   ·exact fc
   ·exact fc
  have hc2:¬ ((L.getD (addQ 0 (Int.toNat (i:Int))) []).length:Int) > 4096:=hc2
  rw [addQ_eq,Nat.zero_add,Int.toNat_natCast,hm] at hc2
  have hsucc:=jnT_succ (L:=L) (i:=i) (by omega)
  have hT2:∀ x ∈ L.take (i + 1),x.length ≤ 4096:=by
   rw [take_succ_getD [] L i (by omega)]
   intro x hx
   rcases List.mem_append.1 hx with hx | hx
   ·exact hT x hx
   ·have hx:x = L.getD i []:=by simpa using hx
    rw [hx,hm];omega
  have e1:=shr8_byte m (by omega)
  have e2:=ofInt8_nat m
  have e3:((m:Int) / 2 ^ 8) = (m:Int) / 256:=rfl
  rw [hm] at hsucc
  have hl1:(jnT L i ++ [UInt8.ofNat (m / 256),UInt8.ofNat m]).length = N + 2:=by rw [List.length_append,hN];rfl
  have hl2:(jnT L (i + 1)).length = N + 2 + m:=by rw [hsucc,List.length_append,hl1,hm]
  repeat (refine sdn ?_)
  refine fun c1 hc1=>?_
  have hc1:N + 2 ≤ c1:=hc1
  repeat (refine sdn ?_)
  refine fun c2 hc2'=>?_
  have hc2':N + 2 + m ≤ c2:=by rw [← hm];exact hc2'
  repeat (refine sdn ?_)
  refine ⟨(i + 1,N + 2 + m,c2),⟨by show i + 1 ≤ n;omega,hl2,hc2',hT2⟩,by show n - (i + 1) < n - i;omega,Le.intro [(204,(35,0,none))] rfl ?_ rfl ?_ rfl⟩
  ·exact fcn
  ·repeat' (first | (show AllP _;first | exact trivial | refine AllP.app ?_ ?_ | refine AllP.appd ?_ ?_ | refine AllP.cons ?_ ?_) | exact fdn | fail)
   all_goals (simp only [dropQ_eq,List.drop_zero,Ix.val,addQ_eq,Nat.zero_add,Int.toNat_natCast,hm];rw [e1,e2,List.take_of_length_le (l:=L.getD i []) (by omega)];exact hsucc)
 ·have hc:¬ (i:Int) < n:=hc
  obtain rfl:i = n:=by omega
  have hall:jnT L i = jnB L:=by rw [← hn];exact jnT_all L
  have hJ:Joins L:=⟨by omega,by rw [← hn,List.take_length] at hT;exact hT⟩
  repeat (refine sd ?_)
  refine Ret.intro (.tup [.sl 1001 0 0 N c,.tt]) [(1003,.mem false 0 [(i * 1,.arr i 1 (rwF L))]),(1001,.mem true (c - N) [(N,.a8 (jnB L))])] [(1001,(204,0,none))] rfl ?_ (Or.inr ⟨c,N,hJ,by rw [← hall];exact hN,hNc,rfl,rfl⟩) rfl ?_ rfl ?_ rfl
  ·exact fc
  ·exact fc
  ·exact fc
end Go.Proofs.Ytimbdhpchlakfaa
namespace Go.Proofs.Ytimbdhpchlakfaa
open Go Go.Sx
end Go.Proofs.Ytimbdhpchlakfaa
namespace Go.Proofs.Ytimbdhpchlakfaa
open Go Go.Sx
abbrev Te:=Int × List (List UInt8)
def te0:Te:=(0,[])
def prS (L:List (List UInt8)):SV:=.isl 0 L.length 1 [(L.length * 1,.arr L.length 1 (rwF L))]
def Valid (k:Int) (L:List (List UInt8)):Prop:=Joins L∧1 ≤ k∧k ≤ 8
instance (k:Int) (L:List (List UInt8)):Decidable (Valid k L):=inferInstanceAs (Decidable (_∧_∧_))
def fdT (x:Te):List Te→Nat
 | []=>0
 | y :: r=>if y = x then 1 else match fdT x r with
  | 0=>0
  | i + 1=>i + 2
theorem fdT_le (x:Te):∀ T:List Te,fdT x T ≤ T.length
 | []=>Nat.le_refl _
 | y :: r=>by
  have:=fdT_le x r
  unfold fdT
  split
  ·simp
  ·split
   ·simp
   ·rename_i i h;rw [h] at this;simp only [List.length_cons];omega
@[irreducible] def mkT (T:List Te) (x:Te):List Te × Nat:=if Valid x.1 x.2 then match fdT x T with
 | 0=>(T ++ [x],T.length + 1)
 | i + 1=>(T,i + 1)
 else (T,0)
theorem mkT_no {T:List Te} {x:Te} (h:¬ Valid x.1 x.2):mkT T x = (T,0):=by unfold mkT;rw [if_neg h]
theorem mkT_old {T:List Te} {x:Te} {i:Nat} (h:Valid x.1 x.2) (hf:fdT x T = i + 1):mkT T x = (T,i + 1):=by unfold mkT;rw [if_pos h,hf]
theorem mkT_new {T:List Te} {x:Te} (h:Valid x.1 x.2) (hf:fdT x T = 0):mkT T x = (T ++ [x],T.length + 1):=by unfold mkT;rw [if_pos h,hf]
def kyB (o:Nat):List UInt8:=match o with
 | 0=>List.replicate 32 0
 | i + 1=>nameB (i + 1)
theorem kyB_length:∀ o,(kyB o).length = 32
 | 0=>rfl
 | i + 1=>nameB_length _
theorem appF_row {n:Nat} {F H:Nat→List (Nat × SV)} {c:List (Nat × SV)} (h1:∀ q,q < n→H q = F q) (h2:H n = c):∀ q,q < n + 1→H q = appF n F (rowF [c]) q:=by
 intro q hq
 rcases Nat.lt_or_ge q n with h | h
 ·rw [appF_lt h,h1 q h]
 ·obtain rfl:q = n:=by omega
  rw [appF_ge h,h2]
  rfl
theorem getD_app_lt {α:Type} (d:α) {T:List α} {x:α} {q:Nat} (h:q < T.length):(T ++ [x]).getD q d = T.getD q d:=by
 rw [List.getD_eq_getElem?_getD,List.getD_eq_getElem?_getD,List.getElem?_append_left h]
theorem getD_app_at {α:Type} (d:α) (T:List α) (x:α):(T ++ [x]).getD T.length d = x:=by
 rw [List.getD_eq_getElem?_getD,List.getElem?_append_right (Nat.le_refl _),Nat.sub_self]
 rfl
end Go.Proofs.Ytimbdhpchlakfaa
namespace Go.Proofs.Ytimbdhpchlakfaa
open Go Go.Sx
theorem ofNat8_inj {a b:Nat} (ha:a < 256) (hb:b < 256) (h:UInt8.ofNat a = UInt8.ofNat b):a = b:=by
 have:=congrArg UInt8.toNat h
 rw [UInt8.toNat_ofNat',UInt8.toNat_ofNat',Nat.mod_eq_of_lt (by omega),Nat.mod_eq_of_lt (by omega)] at this
 exact this
theorem ofNat8_mod {a b:Nat} (h:UInt8.ofNat a = UInt8.ofNat b):a % 256 = b % 256:=by
 have:=congrArg UInt8.toNat h
 rw [UInt8.toNat_ofNat',UInt8.toNat_ofNat'] at this
 exact this
theorem jnR_inj:∀ (L K:List (List UInt8)) (s t:List UInt8),L.length = K.length→(∀ x ∈ L,x.length ≤ 4096)→(∀ x ∈ K,x.length ≤ 4096)→jnR L ++ s = jnR K ++ t→L = K∧s = t
 | [],[],s,t,_,_,_,h=>⟨rfl,h⟩
 | [],_ :: _,_,_,h,_,_,_=>by simp at h
 | _ :: _,[],_,_,h,_,_,_=>by simp at h
 | x :: r,y :: q,s,t,hl,hx,hy,h=>by
  have hxl:=hx x (List.mem_cons_self ..)
  have hyl:=hy y (List.mem_cons_self ..)
  simp only [jnR,List.cons_append,List.nil_append,List.append_assoc,List.cons.injEq] at h
  obtain ⟨h1,h2,h3⟩:=h
  have e1:=ofNat8_mod h1
  have e2:=ofNat8_mod h2
  have hlen:x.length = y.length:=by omega
  have hxy:x = y∧jnR r ++ s = jnR q ++ t:=List.append_inj h3 hlen
  obtain ⟨h4,h5⟩:=jnR_inj r q s t (by simpa using hl) (fun z hz=>hx z (List.mem_cons_of_mem _ hz)) (fun z hz=>hy z (List.mem_cons_of_mem _ hz)) hxy.2
  exact ⟨by rw [hxy.1,h4],h5⟩
@[irreducible] def keyT (x:Te):List UInt8:=jnB x.2 ++ [UInt8.ofInt x.1]
theorem keyT_eq (x:Te):keyT x = jnB x.2 ++ [UInt8.ofInt x.1]:=by unfold keyT;rfl
theorem kind_inj {a b:Int} (ha:1 ≤ a∧a ≤ 8) (hb:1 ≤ b∧b ≤ 8) (h:UInt8.ofInt a = UInt8.ofInt b):a = b:=by
 obtain ⟨n,rfl⟩:∃ n:Nat,a = n:=⟨a.toNat,by omega⟩
 obtain ⟨m,rfl⟩:∃ m:Nat,b = m:=⟨b.toNat,by omega⟩
 rw [ofInt8_nat,ofInt8_nat] at h
 rw [ofNat8_inj (by omega) (by omega) h]
theorem keyT_inj {x y:Te} (hx:Valid x.1 x.2) (hy:Valid y.1 y.2) (h:keyT x = keyT y):x = y:=by
 rw [keyT_eq,keyT_eq,jnB_eq,jnB_eq,List.cons_append,List.cons_append,List.cons.injEq] at h
 have h1:x.2.length = y.2.length:=ofNat8_inj (by have:=hx.1.1;omega) (by have:=hy.1.1;omega) h.1
 obtain ⟨h2,h3⟩:=jnR_inj _ _ _ _ h1 hx.1.2 hy.1.2 h.2
 exact Prod.ext (kind_inj hx.2 hy.2 (by simpa using h3)) h2
def mpF:Nat→List Te→List (List UInt8 × Int)
 | _,[]=>[]
 | i,x :: r=>(keyT x,((i + 1:Nat):Int)) :: mpF (i + 1) r
@[irreducible] def mpL (T:List Te):List (List UInt8 × Int):=mpF 0 T
theorem mpF_app:∀ (i:Nat) (T:List Te) (x:Te),mpF i (T ++ [x]) = mpF i T ++ [(keyT x,((i + T.length + 1:Nat):Int))]
 | i,[],x=>rfl
 | i,y :: r,x=>by
  show _ :: mpF (i + 1) (r ++ [x]) = _ :: (mpF (i + 1) r ++ _)
  rw [mpF_app (i + 1) r x]
  simp only [List.length_cons]
  rw [show i + 1 + r.length + 1 = i + (r.length + 1) + 1 by omega]
theorem mpL_app (T:List Te) (x:Te):mpL (T ++ [x]) = mpL T ++ [(keyT x,((T.length + 1:Nat):Int))]:=by
 unfold mpL;rw [mpF_app,Nat.zero_add]
theorem mpL_nil:mpL [] = []:=by unfold mpL;rfl
theorem mpF_get {x:Te} (hx:Valid x.1 x.2):∀ (i:Nat) (T:List Te),(∀ y ∈ T,Valid y.1 y.2)→mpGet (mpF i T) (keyT x) = if fdT x T = 0 then none else some ((i + fdT x T:Nat):Int)
 | i,[],_=>rfl
 | i,y :: r,h=>by
  have ih:=mpF_get hx (i + 1) r (fun z hz=>h z (List.mem_cons_of_mem _ hz))
  by_cases hxy:y = x
  ·subst hxy
   simp only [mpF,mpGet,fdT,if_true]
   rfl
  ·have hk:keyT x ≠ keyT y:=fun e=>hxy (keyT_inj hx (h y (List.mem_cons_self ..)) e).symm
   have h1:mpGet (mpF i (y :: r)) (keyT x) = mpGet (mpF (i + 1) r) (keyT x):=by
    show (if keyT x = keyT y then _ else _) = _
    rw [if_neg hk]
   rw [h1,ih]
   cases hf:fdT x r with
   | zero=>
    have h2:fdT x (y :: r) = 0:=by unfold fdT;rw [if_neg hxy,hf]
    rw [h2,if_pos rfl,if_pos rfl]
   | succ j=>
    have h2:fdT x (y :: r) = j + 2:=by unfold fdT;rw [if_neg hxy,hf]
    rw [h2,if_neg (by omega),if_neg (by omega)]
    congr 1
    omega
theorem mpL_none {T:List Te} {x:Te} (hx:Valid x.1 x.2) (h:∀ y ∈ T,Valid y.1 y.2) (hf:fdT x T = 0):mpGet (mpL T) (keyT x) = none:=by
 unfold mpL;rw [mpF_get hx 0 T h,if_pos hf]
theorem mpL_some {T:List Te} {x:Te} {i:Nat} (hx:Valid x.1 x.2) (h:∀ y ∈ T,Valid y.1 y.2) (hf:fdT x T = i + 1):mpGet (mpL T) (keyT x) = some ((i + 1:Nat):Int):=by
 unfold mpL;rw [mpF_get hx 0 T h,hf,if_neg (by omega),Nat.zero_add]
theorem mkT_valid {T:List Te} {x:Te} (h:∀ y ∈ T,Valid y.1 y.2):∀ y ∈ (mkT T x).1,Valid y.1 y.2:=by
 by_cases hV:Valid x.1 x.2
 ·cases hf:fdT x T with
  | zero=>
   rw [mkT_new hV hf]
   intro y hy
   rcases List.mem_append.1 hy with hy | hy
   ·exact h y hy
   ·obtain rfl:y = x:=by simpa using hy
    exact hV
  | succ i=>rw [mkT_old hV hf];exact h
 ·rw [mkT_no hV];exact h
theorem mkT_len (T:List Te) (x:Te):T.length ≤ (mkT T x).1.length∧(mkT T x).1.length ≤ T.length + 1:=by
 by_cases hV:Valid x.1 x.2
 ·cases hf:fdT x T with
  | zero=>rw [mkT_new hV hf];simp
  | succ i=>rw [mkT_old hV hf];simp
 ·rw [mkT_no hV];simp
end Go.Proofs.Ytimbdhpchlakfaa
