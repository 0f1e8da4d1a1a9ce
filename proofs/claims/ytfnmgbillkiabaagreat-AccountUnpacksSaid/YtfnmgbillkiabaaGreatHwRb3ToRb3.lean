/- What the functions of the program compute. No condition. -/
import Derived.Test.YtfnmgbillkiabaaGreatHwAd1ToRb0
set_option linter.unusedSimpArgs false
set_option linter.unusedVariables false
set_option maxRecDepth 100000
namespace Go.Proofs.YtfnmgbillkiabaaGreat
open Go Go.Sx
theorem skr_det {fr:Bool} {T:List Te} {key:List UInt8} {r:List UInt8} {n to:UInt16} {l:List Kp} {T1 T2:List Te} {k1 k2:List UInt8} {n1 n2:UInt16} {L1 L2:List Kp} {e1 e2:Int}
  (h1:SkRes fr T key r n to l T1 k1 n1 L1 e1) (h2:SkRes fr T key r n to l T2 k2 n2 L2 e2):T1 = T2/\k1 = k2/\n1 = n2/\L1 = L2/\e1 = e2:=by
 rcases h1 with ⟨a1,rfl,rfl,rfl,rfl,rfl⟩ | ⟨a1,a2,rfl,rfl,rfl,rfl,rfl⟩ | ⟨a1,a2,⟨i,a3,a4,a5,rfl⟩,rfl,rfl,rfl,rfl⟩ | ⟨a1,a2,a3,rfl,rfl,rfl,rfl,rfl⟩ <;>
 rcases h2 with ⟨b1,rfl,rfl,rfl,rfl,rfl⟩ | ⟨b1,b2,rfl,rfl,rfl,rfl,rfl⟩ | ⟨b1,b2,⟨j,b3,b4,b5,rfl⟩,rfl,rfl,rfl,rfl⟩ | ⟨b1,b2,b3,rfl,rfl,rfl,rfl,rfl⟩
 all_goals first
  | exact ⟨rfl,rfl,rfl,rfl,rfl⟩
  | (exfalso;omega)
  | (exfalso;exact absurd b4 (a3 _ b3))
  | (exfalso;exact absurd a4 (b3 _ a3))
  | skip
 rcases Nat.lt_trichotomy i j with h | h | h
 ·exact absurd a4 (b5 i h)
 ·subst h;exact ⟨rfl,rfl,rfl,rfl,rfl⟩
 ·exact absurd b4 (a5 j h)
theorem skr_info {fr:Bool} {T:List Te} {key:List UInt8} {r:List UInt8} {n to:UInt16} {l:List Kp} {T':List Te} {k':List UInt8} {n':UInt16} {L':List Kp} {e:Int} (h:SkRes fr T key r n to l T' k' n' L' e)
  (hk:key.length = 32) (hr:r.length = 32) (hl:∀ x ∈ l,KpOK x) (hT:∀ x ∈ T,Valid x.1 x.2) :
  k'.length = 32/\(∀ x ∈ L',KpOK x)/\L'.length <= l.length + 16/\(∀ x ∈ T',Valid x.1 x.2)/\T'.length <= T.length + 40:=by
 rcases h with ⟨a1,rfl,rfl,rfl,rfl,rfl⟩ | ⟨a1,a2,rfl,rfl,rfl,rfl,rfl⟩ | ⟨a1,a2,⟨i,a3,a4,a5,rfl⟩,rfl,rfl,rfl,rfl⟩ | ⟨a1,a2,a3,rfl,rfl,rfl,rfl,rfl⟩
 ·exact ⟨hk,hl,by omega,hT,by omega⟩
 ·exact ⟨hk,hl,by omega,hT,by omega⟩
 ·exact ⟨hk,hl,by omega,skA_valid fr hT _ _,by have:=skA_tlen fr T k' (i + 1);omega⟩
 ·refine ⟨skA_klen fr T hk _,skP_ok fr T key hr n hl _,by rw [skP_len];omega,skA_valid fr hT _ _,?_⟩
  have:=skA_tlen fr T key (n'.toNat - n.toNat)
  omega
def PreR (T:List Te) (x:Se) (pv:UInt16) (T1:List Te) (k1:List UInt8) (n1:UInt16) (L1:List Kp) (e:Int):Prop:=
 (x.hr = true/\x.rn < pv/\SkRes true T x.rk x.th x.rn pv x.kp T1 k1 n1 L1 e) \/ (¬ (x.hr = true/\x.rn < pv)/\T1 = T/\k1 = x.rk/\n1 = x.rn/\L1 = x.kp/\e = 0)
def trS (T:List Te) (y:Se):Se:={ y with root:=tuR T y,rk:=tuK T y,rn:=0,hr:=true,hs:=false,fi:=false,ag:=z32,sg:=z32,ba:=z32,oc:=0 }
def TurnR (T:List Te) (x:Se) (ra:List UInt8) (pv:UInt16) (T2:List Te) (x2:Se) (e:Int):Prop:=
 (x.hr = true/\ra = x.th/\T2 = T/\x2 = x/\e = 0) \/
 (¬ (x.hr = true/\ra = x.th)/\¬ x.hs = true/\T2 = T/\x2 = x/\e = 190) \/
 (¬ (x.hr = true/\ra = x.th)/\x.hs = true/\∃ T1 k1 n1 L1 e1,PreR T x pv T1 k1 n1 L1 e1/\((e1 ≠ 0/\T2 = T1/\x2 = x/\e = e1) \/
  (e1 = 0/\T2 = tuT T1 { x with rk:=k1,rn:=n1,kp:=L1,th:=ra }/\x2 = trS T1 { x with rk:=k1,rn:=n1,kp:=L1,th:=ra }/\e = 0)))
def GoR (T:List Te) (x:Se) (n:UInt16) (T':List Te) (x':Se) (row:List UInt8) (e:Int):Prop:=
 ∃ T1 k1 n1 L1 e1,SkRes true T x.rk x.th x.rn n x.kp T1 k1 n1 L1 e1 /\
  ((e1 ≠ 0/\T' = T1/\x' = x/\row = z32/\e = e1) \/ (e1 = 0/\n1 = 65535/\T' = T1/\x' = x/\row = z32/\e = 7) \/
   (e1 = 0/\n1 ≠ 65535/\T' = nxT T1 k1/\x' = { x with rk:=kyB (nxN T1 k1),rn:=n1 + 1,kp:=L1 }/\row = kyB (nxK T1 k1)/\e = 0))
def FindR (T:List Te) (x:Se) (ra:List UInt8) (n pv:UInt16) (T':List Te) (x':Se) (row:List UInt8) (e:Int):Prop:=
 (∃ i,i < x.kp.length/\fiI ra n x.kp = (i:Int)/\T' = T/\x' = { x with kp:=x.kp.eraseIdx i }/\row = (x.kp.getD i kp0).2.2/\e = 0) \/
 (fiI ra n x.kp = -1/\∃ T2 x2 e2,TurnR T x ra pv T2 x2 e2/\((e2 ≠ 0/\T' = T2/\x' = x/\row = z32/\e = e2) \/ (e2 = 0/\GoR T2 x2 n T' x' row e)))
theorem pre_det {T:List Te} {x:Se} {pv:UInt16} {T1 T2:List Te} {k1 k2:List UInt8} {n1 n2:UInt16} {L1 L2:List Kp} {e1 e2:Int} (h:PreR T x pv T1 k1 n1 L1 e1) (k:PreR T x pv T2 k2 n2 L2 e2):T1 = T2/\k1 = k2/\n1 = n2/\L1 = L2/\e1 = e2:=by
 rcases h with ⟨a1,a2,a3⟩ | ⟨a1,rfl,rfl,rfl,rfl,rfl⟩ <;> rcases k with ⟨b1,b2,b3⟩ | ⟨b1,rfl,rfl,rfl,rfl,rfl⟩
 ·exact skr_det a3 b3
 ·exact absurd ⟨a1,a2⟩ b1
 ·exact absurd ⟨b1,b2⟩ a1
 ·exact ⟨rfl,rfl,rfl,rfl,rfl⟩
theorem turn_det {T:List Te} {x:Se} {ra:List UInt8} {pv:UInt16} {T1 T2:List Te} {x1 x2:Se} {e1 e2:Int} (h:TurnR T x ra pv T1 x1 e1) (k:TurnR T x ra pv T2 x2 e2):T1 = T2/\x1 = x2/\e1 = e2:=by
 rcases h with ⟨a1,a2,rfl,rfl,rfl⟩ | ⟨a1,a2,rfl,rfl,rfl⟩ | ⟨a1,a2,A,k1,n1,L1,d1,a3,a4⟩
 ·rcases k with ⟨b1,b2,rfl,rfl,rfl⟩ | ⟨b1,b2,rfl,rfl,rfl⟩ | ⟨b1,b2,B,k2,n2,L2,d2,b3,b4⟩
  ·exact ⟨rfl,rfl,rfl⟩
  ·exact absurd ⟨a1,a2⟩ b1
  ·exact absurd ⟨a1,a2⟩ b1
 ·rcases k with ⟨b1,b2,rfl,rfl,rfl⟩ | ⟨b1,b2,rfl,rfl,rfl⟩ | ⟨b1,b2,B,k2,n2,L2,d2,b3,b4⟩
  ·exact absurd ⟨b1,b2⟩ a1
  ·exact ⟨rfl,rfl,rfl⟩
  ·exact absurd b2 a2
 rcases k with ⟨b1,b2,rfl,rfl,rfl⟩ | ⟨b1,b2,rfl,rfl,rfl⟩ | ⟨b1,b2,B,k2,n2,L2,d2,b3,b4⟩
 ·exact absurd ⟨b1,b2⟩ a1
 ·exact absurd a2 b2
 obtain ⟨rfl,rfl,rfl,rfl,rfl⟩:=pre_det a3 b3
 rcases a4 with ⟨c1,rfl,rfl,rfl⟩ | ⟨c1,rfl,rfl,rfl⟩ <;> rcases b4 with ⟨c2,rfl,rfl,rfl⟩ | ⟨c2,rfl,rfl,rfl⟩
 ·exact ⟨rfl,rfl,rfl⟩
 ·exact absurd c2 c1
 ·exact absurd c1 c2
 ·exact ⟨rfl,rfl,rfl⟩
theorem go_det {T:List Te} {x:Se} {n:UInt16} {T1 T2:List Te} {x1 x2:Se} {r1 r2:List UInt8} {e1 e2:Int} (h:GoR T x n T1 x1 r1 e1) (k:GoR T x n T2 x2 r2 e2):T1 = T2/\x1 = x2/\r1 = r2/\e1 = e2:=by
 obtain ⟨A,k1,n1,L1,d1,a1,a2⟩:=h
 obtain ⟨B,k2,n2,L2,d2,b1,b2⟩:=k
 obtain ⟨rfl,rfl,rfl,rfl,rfl⟩:=skr_det a1 b1
 rcases a2 with ⟨c1,rfl,rfl,rfl,rfl⟩ | ⟨c1,c3,rfl,rfl,rfl,rfl⟩ | ⟨c1,c3,rfl,rfl,rfl,rfl⟩ <;> rcases b2 with ⟨c2,rfl,rfl,rfl,rfl⟩ | ⟨c2,c4,rfl,rfl,rfl,rfl⟩ | ⟨c2,c4,rfl,rfl,rfl,rfl⟩
 all_goals first
  | exact ⟨rfl,rfl,rfl,rfl⟩
  | exact absurd c1 c2
  | exact absurd c2 c1
  | exact absurd c3 c4
  | exact absurd c4 c3
theorem find_det {T:List Te} {x:Se} {ra:List UInt8} {n pv:UInt16} {T1 T2:List Te} {x1 x2:Se} {r1 r2:List UInt8} {e1 e2:Int} (h:FindR T x ra n pv T1 x1 r1 e1) (k:FindR T x ra n pv T2 x2 r2 e2):T1 = T2/\x1 = x2/\r1 = r2/\e1 = e2:=by
 rcases h with ⟨i,a1,a2,rfl,rfl,rfl,rfl⟩ | ⟨a1,A,y1,d1,a2,a3⟩ <;> rcases k with ⟨j,b1,b2,rfl,rfl,rfl,rfl⟩ | ⟨b1,B,y2,d2,b2,b3⟩
 ·have:i = j:=by omega
  subst this;exact ⟨rfl,rfl,rfl,rfl⟩
 ·omega
 ·omega
 ·obtain ⟨rfl,rfl,rfl⟩:=turn_det a2 b2
  rcases a3 with ⟨c1,rfl,rfl,rfl,rfl⟩ | ⟨c1,a3⟩ <;> rcases b3 with ⟨c2,rfl,rfl,rfl,rfl⟩ | ⟨c2,b3⟩
  ·exact ⟨rfl,rfl,rfl,rfl⟩
  ·exact absurd c2 c1
  ·exact absurd c1 c2
  ·exact go_det a3 b3
theorem kpOK_getD {l:List Kp} (h:∀ x ∈ l,KpOK x) {i:Nat} (hi:i < l.length):KpOK (l.getD i kp0):=by
 rw [List.getD_eq_getElem?_getD,List.getElem?_eq_getElem hi];exact h _ (List.getElem_mem _)
theorem erase_last {l:List Kp} {i m:Nat} (h:i + 1 = m) (hm:m <= l.length):(l.take m).eraseIdx i = l.take i:=by
 rw [List.eraseIdx_eq_take_drop_succ,h,List.drop_of_length_le (by rw [zlT];omega),List.append_nil,List.take_take,Nat.min_eq_left (by omega)]
theorem erase_mem {l:List Kp} (h:∀ x ∈ l,KpOK x) (i:Nat):∀ x ∈ l.eraseIdx i,KpOK x:=fun x hx=>h x (List.mem_of_mem_eraseIdx hx)
set_option maxHeartbeats 8000000 in
theorem fn39 (T:List Te) (N c:Nat) (hT:T.length = N) (hN:N <= 39000) (hNc:N <= c) (hTv:∀ x ∈ T,Valid x.1 x.2) (x:Se) (hx:x.OK) (l:List Kp) (Nl ml:Nat) (hNl:l.length = Nl) (hml:ml <= Nl) (hNl1:Nl <= 100000) (hlO:∀ x ∈ l,KpOK x) (hkp:x.kp = l.take ml)
  (h:Hd) (hh:h.OK) :
  Sx.Fn Γ.P 39 [.agg [(1,.ptr 1000 0 none)],.agg (seL x (.isl 0 ml 65 [(Nl * 65,.arr Nl 65 (kpF l))])),hdV h] (tbM N c T 1001)
  (fun v M=>∃ T' x' row e n' c' xe le Ne me re,FindR T x h.ra h.n h.pv T' x' row e/\T'.length = n'/\n' <= c'/\n' <= N + 100/\(∀ y ∈ T',Valid y.1 y.2)/\le.length = Ne/\me <= Ne/\Ne <= Nl + 40/\(∀ y ∈ le,KpOK y)/\xe.OK/\re.length = 32/\(e = 0->xe = x'/\x'.kp = le.take me/\re = row) /\
   v = .tup [.agg (seL xe (.isl 0 me 65 [(Ne * 65,.arr Ne 65 (kpF le))])),.a8 re,.i .i64 e]/\M = (1001,.dead) :: tbM n' c' T' 1005):=by
 have hx':=hx
 obtain ⟨h1,h2,h3,h4,h5,h6,h7,h8,h9,_⟩:=hx'
 obtain ⟨f1,f2,f3,f4,f5⟩:=hh
 have hTk:=fn82 l Nl ml hNl hml (by omega) hlO h.ra h.n f5
 rw [<- hkp] at hTk
 unfold tbM hdV
 refine fn_cut [1000013,1000019] (Γ:=Γ) (fn:=Tryz.f39) rfl rfl rfl rfl ?_
 repeat (refine sd ?_)
 refine Call.name [(2001,[]),(0,[]),(0,[])] rfl fc (CallP.intro hTk [(1003,(2001,0,none)),(1005,(305,0,none))] rfl fc rfl ?_ rfl ?_)
 ·exact fc
 rintro v M' (⟨hf,ct,hct,rfl,rfl⟩ | ⟨i,hi,hf,hi1,rfl,rfl⟩ | ⟨i,hi,hf,hi1,ct,hct,rfl,rfl⟩)
 rotate_left
 ·have hki:=kpOK_getD hlO (i:=i) (by omega)
  have hk2:=hki.2
  have hgd:(x.kp.getD i kp0).2.2 = (l.getD i kp0).2.2:=by rw [hkp,getD_take_lt kp0 (by omega)]
  dsimp only [zt,zM,zE,ren,zz,zx,zy,look,zG,zX,ev,evL,zV,zcT,zcF,act,zP,zO,Ent.zW]
  repeat (first | (refine zB.intro (fun _=>?_) (fun hn=>absurd rfl hn)) | (refine ky0 ?_) | (refine kn0 ?_) | (refine sd ?_))
  refine Draw.intro [[],[],[0],[0,1,2],[0,1,2,3]] [0,1,2,3,4] (by kernel_rfl) ?_
  repeat (first | (refine Grow.turn rfl rfl ?_) | (refine sd ?_))
  refine Ret.ghost [.ice 6 16] [] rfl trivial rfl (.tup [.agg (seL { x with kp:=x.kp.eraseIdx i } (.isl 0 i 65 [(Nl * 65,.arr Nl 65 (kpF l))])),.a8 (l.getD i kp0).2.2,.i .i64 0]) ((1001,.dead) :: tbM N c T 1005) [(1005,(1001,0,none))] rfl ?_
   ⟨T,_,_,0,N,c,{ x with kp:=x.kp.eraseIdx i },l,Nl,i,_,Or.inl ⟨i,by rw [hkp,zlT];omega,hf,rfl,rfl,rfl,rfl⟩,hT,hNc,by omega,hTv,hNl,by omega,by omega,hlO,⟨h1,h2,h3,h4,h5,h6,h7,h8,h9,erase_mem hx.kp i⟩,hk2,fun _=>⟨rfl,by rw [hkp];exact erase_last hi1 (by omega),hgd.symm⟩,rfl,rfl⟩ rfl ?_ rfl ?_ rfl
  ·exact fc
  ·exact fc
  ·exact fc
 ·have hki:=kpOK_getD hlO (i:=i) (by omega)
  have hk2:=hki.2
  have hgd:(x.kp.getD i kp0).2.2 = (l.getD i kp0).2.2:=by rw [hkp,getD_take_lt kp0 (by omega)]
  have hle:(x.kp.eraseIdx i).length = ml - 1:=by rw [List.length_eraseIdx_of_lt (by rw [hkp,zlT];omega),hkp,zlT];omega
  dsimp only [zt,zM,zE,ren,zz,zx,zy,look,zG,zX,ev,evL,zV,zcT,zcF,act,zP,zO,Ent.zW]
  repeat (first | (refine zB.intro (fun _=>?_) (fun hn=>absurd rfl hn)) | (refine ky0 ?_) | (refine kn0 ?_) | (refine sd ?_))
  refine Draw.intro [[],[],[0],[0,1,2],[0,1,2,3]] [0,1,2,3,4] (by kernel_rfl) ?_
  repeat (first | (refine Grow.turn rfl rfl ?_) | (refine sd ?_))
  refine Ret.ghost [.keep 305,.ice 6 16] [] rfl trivial rfl (.tup [.agg (seL { x with kp:=x.kp.eraseIdx i } (.isl 0 (ml - 1) 65 [((ml - 1) * 65,.arr (ml - 1) 65 (kpF (x.kp.eraseIdx i)))])),.a8 (l.getD i kp0).2.2,.i .i64 0]) ((1001,.dead) :: tbM N c T 1005) [(1005,(1001,0,none))] rfl ?_
   ⟨T,_,_,0,N,c,{ x with kp:=x.kp.eraseIdx i },x.kp.eraseIdx i,ml - 1,ml - 1,_,Or.inl ⟨i,by rw [hkp,zlT];omega,hf,rfl,rfl,rfl,rfl⟩,hT,hNc,by omega,hTv,hle,Nat.le_refl _,by omega,erase_mem hx.kp i,⟨h1,h2,h3,h4,h5,h6,h7,h8,h9,erase_mem hx.kp i⟩,hk2,fun _=>⟨rfl,by rw [List.take_of_length_le (by omega)],hgd.symm⟩,rfl,rfl⟩ rfl ?_ rfl ?_ rfl
  ·exact fc
  ·exact fc
  ·exact fc
 dsimp only [zt,zM,zE,ren,zz,zx,zy,look,zG,zX,ev,evL,zV,zcT,zcF,act,zP,zO,Ent.zW]
 repeat (first | (refine zB.intro (fun _=>?_) (fun hn=>absurd rfl hn)) | (refine ky0 ?_) | (refine kn0 ?_) | (refine sd ?_))
 refine Join.intro (σ:=List Te × Se × List Kp × Nat × Nat × Nat × Nat) (fun s=>TurnR T x h.ra h.pv s.1 s.2.1 0/\s.1.length = s.2.2.2.1/\s.2.2.2.1 <= s.2.2.2.2.1/\s.2.2.2.1 <= N + 50/\(∀ y ∈ s.1,Valid y.1 y.2)/\s.2.1.OK/\s.2.2.1.length = s.2.2.2.2.2.1/\s.2.2.2.2.2.2 <= s.2.2.2.2.2.1/\s.2.2.2.2.2.1 <= Nl + 16/\(∀ y ∈ s.2.2.1,KpOK y)/\s.2.1.kp = s.2.2.1.take s.2.2.2.2.2.2)
  (fun s=>([(3,.ptr 203 0 none),(4,.ptr 204 0 none),(5,.ptr 205 0 none),(6,.ptr 206 0 none),(7,.ptr 207 0 none)],[(203,.mem true 0 [(1,.ptr 1000 0 none)]),(204,.mem true 0 (seL s.2.1 (.isl 0 s.2.2.2.2.2.2 65 [(s.2.2.2.2.2.1 * 65,.arr s.2.2.2.2.2.1 65 (kpF s.2.2.1))]))),
  (205,.mem true 0 [(32,.a8 h.ss),(1,.bool (h.fi = true)),(32,.a8 h.ag),(32,.a8 h.sg),(32,.a8 h.ba),(1,.u16 h.id),(32,.a8 h.ra),(1,.u16 h.n),(1,.u16 h.pv)]),(206,.mem true 0 zsL),(207,.mem true 0 [(32,.a8 (List.replicate 32 0))]),
  (1000,.mem true 0 [(1,.sl 212 0 0 s.2.2.2.1 s.2.2.2.2.1),(1,.mp 1002)]),(1001,.dead),(212,.mem true (zmE (s.2.2.2.2.1 - s.2.2.2.1) 3) [(s.2.2.2.1 * 3,.arr s.2.2.2.1 3 (ttF s.1))]),(1002,.map (.si (mpL s.1)))])) ?_ ?_
 ·repeat (refine sd ?_)
  refine zB.intro (fun hr=>?_) (fun hr=>?_)
  ·have hr:¬ x.hr = true:=hr
   repeat (first | (refine zB.intro (fun _=>?_) (fun hn=>absurd rfl hn)) | (refine ky0 ?_) | (refine kn0 ?_) | (refine sd ?_))
   refine zB.intro (fun hs=>?_) (fun hs=>?_)
   ·have hs:¬ x.hs = true:=hs
    repeat (refine sd ?_)
    refine Ret.intro (.tup [.agg (seL x (.isl 0 ml 65 [(Nl * 65,.arr Nl 65 (kpF l))])),.a8 z32,.i .i64 190]) ((1001,.dead) :: tbM N c T 1005) [(1005,(1001,0,none))] rfl ?_
     ⟨T,x,z32,190,N,c,x,l,Nl,ml,z32,Or.inr ⟨hf,T,x,190,Or.inr (Or.inl ⟨fun h=>hr h.1,hs,rfl,rfl,rfl⟩),Or.inl ⟨by decide,rfl,rfl,rfl,rfl⟩⟩,hT,hNc,by omega,hTv,hNl,hml,by omega,hlO,hx,zlz,fun h=>absurd h (by decide),rfl,rfl⟩ rfl ?_ rfl ?_ rfl
    ·exact fc
    ·exact fc
    ·exact fc
   have hs:=Classical.not_not.1 hs
   repeat (first | (refine zB.intro (fun _=>?_) (fun hn=>absurd rfl hn)) | (refine ky0 ?_) | (refine kn0 ?_) | (refine sd ?_))
   refine Join.intro (σ:=List Te × List UInt8 × UInt16 × List Kp × Nat × Nat × Nat × Nat) (fun s=>PreR T x h.pv s.1 s.2.1 s.2.2.1 (s.2.2.2.1.take s.2.2.2.2.2.2.2) 0/\s.1.length = s.2.2.2.2.1/\s.2.2.2.2.1 <= s.2.2.2.2.2.1/\s.2.2.2.2.1 <= N + 40/\(∀ y ∈ s.1,Valid y.1 y.2)/\s.2.1.length = 32/\s.2.2.2.1.length = s.2.2.2.2.2.2.1/\s.2.2.2.2.2.2.2 <= s.2.2.2.2.2.2.1/\s.2.2.2.2.2.2.1 <= Nl + 16/\∀ y ∈ s.2.2.2.1,KpOK y)
    (fun s=>([(3,.ptr 203 0 none),(4,.ptr 204 0 none),(5,.ptr 205 0 none),(6,.ptr 206 0 none),(7,.ptr 207 0 none)],[(203,.mem true 0 [(1,.ptr 1000 0 none)]),(204,.mem true 0 [(32,.a8 x.id),(32,.a8 x.root),(32,.a8 x.mine),(1,.bool (x.hs = true)),(32,.a8 x.sk),(1,.u16 x.sn),(1,.u16 x.pv),(32,.a8 x.th),(1,.bool (x.hr = true)),(32,.a8 s.2.1),(1,.u16 s.2.2.1),(1,.bool (x.fi = true)),(32,.a8 x.ag),(32,.a8 x.sg),(32,.a8 x.ba),(1,.u16 x.oc),(1,.isl 0 s.2.2.2.2.2.2.2 65 [(s.2.2.2.2.2.2.1 * 65,.arr s.2.2.2.2.2.2.1 65 (kpF s.2.2.2.1))])]),
    (205,.mem true 0 [(32,.a8 h.ss),(1,.bool (h.fi = true)),(32,.a8 h.ag),(32,.a8 h.sg),(32,.a8 h.ba),(1,.u16 h.id),(32,.a8 h.ra),(1,.u16 h.n),(1,.u16 h.pv)]),(206,.mem true 0 zsL),(207,.mem true 0 [(32,.a8 (List.replicate 32 0))]),
    (1000,.mem true 0 [(1,.sl 211 0 0 s.2.2.2.2.1 s.2.2.2.2.2.1),(1,.mp 1002)]),(1001,.dead),(211,.mem true (zmE (s.2.2.2.2.2.1 - s.2.2.2.2.1) 3) [(s.2.2.2.2.1 * 3,.arr s.2.2.2.2.1 3 (ttF s.1))]),(1002,.map (.si (mpL s.1)))])) ?_ ?_
   ·repeat (first | (refine zB.intro (fun _=>?_) (fun hn=>absurd rfl hn)) | (refine ky0 ?_) | (refine kn0 ?_) | (refine ky ?_) | (refine kn ?_) | (refine sd ?_))
    refine ⟨(T,x.rk,x.rn,l,N,c,Nl,ml),⟨Or.inr ⟨fun h=>hr h.1,rfl,rfl,rfl,hkp.symm,rfl⟩,hT,hNc,by show N <= _;omega,hTv,h6,hNl,hml,by show Nl <= _;omega,hlO⟩,Le.intro [(203,(3,0,none)),(204,(4,0,none)),(205,(5,0,none)),(206,(6,0,none)),(207,(7,0,none)),(211,(1001,0,none))] rfl ?_ rfl ?_ rfl⟩
    ·exact fc
    ·exact fc
   rintro ⟨T1,k1,n1,l1,nt,ct,N1,m1⟩ ⟨hpre,ht1,ht2,ht3,ht4,hk1,hl1,hm1,hN1,hlo1⟩
   have hpre:PreR T x h.pv T1 k1 n1 (l1.take m1) 0:=hpre
   have ht1:T1.length = nt:=ht1
   have ht2:nt <= ct:=ht2
   have ht3:nt <= N + 40:=ht3
   have ht4:∀ y ∈ T1,Valid y.1 y.2:=ht4
   have hk1:k1.length = 32:=hk1
   have hl1:l1.length = N1:=hl1
   have hm1:m1 <= N1:=hm1
   have hN1:N1 <= Nl + 16:=hN1
   have hlo1:∀ y ∈ l1,KpOK y:=hlo1
   obtain ⟨Y,hY⟩:∃ Y:Se,Y = { x with rk:=k1,rn:=n1,kp:=l1.take m1,th:=h.ra }:=⟨_,rfl⟩
   have hYo:Y.OK:=by subst hY;exact ⟨h1,h2,h3,h4,f5,hk1,h7,h8,h9,fun y hy=>hlo1 y (List.mem_of_mem_take hy)⟩
   have hTu:=fn84 T1 nt ct ht1 (by omega) ht2 ht4 Y hYo m1 N1 l1
   have hvT:=tuT_valid ht4 (x:=Y) hYo.mine hYo.th
   have hlT:=tuT_len ht4 (x:=Y) hYo.mine hYo.th
   have hkK:=tuK_length T1 Y
   have hkR:=tuR_length T1 Y
   have hYp:Y.kp = l1.take m1:=by rw [hY]
   have eS:trS T1 Y = { id:=x.id,root:=tuR T1 Y,mine:=x.mine,hs:=false,sk:=x.sk,sn:=x.sn,pv:=x.pv,th:=h.ra,hr:=true,rk:=tuK T1 Y,rn:=0,fi:=false,ag:=z32,sg:=z32,ba:=z32,oc:=0,kp:=l1.take m1 }:=by rw [hY];rfl
   have hTR:TurnR T x h.ra h.pv (tuT T1 Y) (trS T1 Y) 0:=Or.inr (Or.inr ⟨fun h=>hr h.1,hs,T1,k1,n1,l1.take m1,0,hpre,Or.inr ⟨rfl,by rw [hY],by rw [hY],rfl⟩⟩)
   rw [eS] at hTR
   unfold tbM seL at hTu
   rw [show Y.id = x.id by rw [hY],show Y.root = x.root by rw [hY],show Y.mine = x.mine by rw [hY],show Y.hs = x.hs by rw [hY],show Y.sk = x.sk by rw [hY],show Y.sn = x.sn by rw [hY],show Y.pv = x.pv by rw [hY],show Y.th = h.ra by rw [hY],show Y.hr = x.hr by rw [hY],show Y.rk = k1 by rw [hY],show Y.rn = n1 by rw [hY],show Y.fi = x.fi by rw [hY],show Y.ag = x.ag by rw [hY],show Y.sg = x.sg by rw [hY],show Y.ba = x.ba by rw [hY],show Y.oc = x.oc by rw [hY]] at hTu
   repeat (refine sd ?_)
   refine Call.intro hTu [(1000,(1000,0,none)),(1001,(211,0,none)),(1002,(1002,0,none)),(1007,(204,0,none)),(1005,(306,0,none))] rfl ?_ rfl ?_ rfl ?_
   ·exact fc
   ·exact fc
   rintro v M' ⟨n2,c2,hn2,hc2,rfl,rfl⟩
   dsimp only [zt,zM,zE,ren,zz,zx,zy,look,zG,zX,ev,evL,zV,zcT,zcF,act,zP,zO,Ent.zW]
   repeat (first | (refine zB.intro (fun _=>?_) (fun hn=>absurd rfl hn)) | (refine ky0 ?_) | (refine kn0 ?_) | (refine sd ?_))
   refine ⟨(tuT T1 Y,{ id:=x.id,root:=tuR T1 Y,mine:=x.mine,hs:=false,sk:=x.sk,sn:=x.sn,pv:=x.pv,th:=h.ra,hr:=true,rk:=tuK T1 Y,rn:=0,fi:=false,ag:=z32,sg:=z32,ba:=z32,oc:=0,kp:=l1.take m1 },l1,n2,c2,N1,m1),⟨hTR,hn2,hc2,by show n2 <= _;omega,hvT,⟨h1,hkR,h3,h4,f5,hkK,zlz,zlz,zlz,fun y hy=>hlo1 y (List.mem_of_mem_take hy)⟩,hl1,hm1,hN1,hlo1,rfl⟩,Le.intro [(203,(203,0,none)),(204,(204,0,none)),(205,(205,0,none)),(206,(206,0,none)),(207,(207,0,none)),(212,(306,0,none))] rfl ?_ rfl ?_ rfl⟩
   ·exact fc
   ·repeat' (first | (show zA _;first | exact trivial | refine zA.app ?_ ?_ | refine zA.zd ?_ ?_ | refine zA.cons ?_ ?_) | exact fd | fail)
    all_goals first | exact Bool.false_ne_true | exact iff_of_true rfl trivial
  ·have hr:=Classical.not_not.1 hr
   repeat (refine sd ?_)
   refine zB.intro (fun hra=>?_) (fun hra=>?_)
   ·have hra:¬ h.ra = x.th:=hra
    repeat (refine sd ?_)
    refine zB.intro (fun hs=>?_) (fun hs=>?_)
    ·have hs:¬ x.hs = true:=hs
     repeat (refine sd ?_)
     refine Ret.intro (.tup [.agg (seL x (.isl 0 ml 65 [(Nl * 65,.arr Nl 65 (kpF l))])),.a8 z32,.i .i64 190]) ((1001,.dead) :: tbM N c T 1005) [(1005,(1001,0,none))] rfl ?_
      ⟨T,x,z32,190,N,c,x,l,Nl,ml,z32,Or.inr ⟨hf,T,x,190,Or.inr (Or.inl ⟨fun h=>hra h.2,hs,rfl,rfl,rfl⟩),Or.inl ⟨by decide,rfl,rfl,rfl,rfl⟩⟩,hT,hNc,by omega,hTv,hNl,hml,by omega,hlO,hx,zlz,fun h=>absurd h (by decide),rfl,rfl⟩ rfl ?_ rfl ?_ rfl
     ·exact fc
     ·exact fc
     ·exact fc
    have hs:=Classical.not_not.1 hs
    repeat (first | (refine zB.intro (fun _=>?_) (fun hn=>absurd rfl hn)) | (refine ky0 ?_) | (refine kn0 ?_) | (refine sd ?_))
    refine Join.intro (σ:=List Te × List UInt8 × UInt16 × List Kp × Nat × Nat × Nat × Nat) (fun s=>PreR T x h.pv s.1 s.2.1 s.2.2.1 (s.2.2.2.1.take s.2.2.2.2.2.2.2) 0/\s.1.length = s.2.2.2.2.1/\s.2.2.2.2.1 <= s.2.2.2.2.2.1/\s.2.2.2.2.1 <= N + 40/\(∀ y ∈ s.1,Valid y.1 y.2)/\s.2.1.length = 32/\s.2.2.2.1.length = s.2.2.2.2.2.2.1/\s.2.2.2.2.2.2.2 <= s.2.2.2.2.2.2.1/\s.2.2.2.2.2.2.1 <= Nl + 16/\∀ y ∈ s.2.2.2.1,KpOK y)
     (fun s=>([(3,.ptr 203 0 none),(4,.ptr 204 0 none),(5,.ptr 205 0 none),(6,.ptr 206 0 none),(7,.ptr 207 0 none)],[(203,.mem true 0 [(1,.ptr 1000 0 none)]),(204,.mem true 0 [(32,.a8 x.id),(32,.a8 x.root),(32,.a8 x.mine),(1,.bool (x.hs = true)),(32,.a8 x.sk),(1,.u16 x.sn),(1,.u16 x.pv),(32,.a8 x.th),(1,.bool (x.hr = true)),(32,.a8 s.2.1),(1,.u16 s.2.2.1),(1,.bool (x.fi = true)),(32,.a8 x.ag),(32,.a8 x.sg),(32,.a8 x.ba),(1,.u16 x.oc),(1,.isl 0 s.2.2.2.2.2.2.2 65 [(s.2.2.2.2.2.2.1 * 65,.arr s.2.2.2.2.2.2.1 65 (kpF s.2.2.2.1))])]),
     (205,.mem true 0 [(32,.a8 h.ss),(1,.bool (h.fi = true)),(32,.a8 h.ag),(32,.a8 h.sg),(32,.a8 h.ba),(1,.u16 h.id),(32,.a8 h.ra),(1,.u16 h.n),(1,.u16 h.pv)]),(206,.mem true 0 zsL),(207,.mem true 0 [(32,.a8 (List.replicate 32 0))]),
     (1000,.mem true 0 [(1,.sl 211 0 0 s.2.2.2.2.1 s.2.2.2.2.2.1),(1,.mp 1002)]),(1001,.dead),(211,.mem true (zmE (s.2.2.2.2.2.1 - s.2.2.2.2.1) 3) [(s.2.2.2.2.1 * 3,.arr s.2.2.2.2.1 3 (ttF s.1))]),(1002,.map (.si (mpL s.1)))])) ?_ ?_
    ·repeat (first | (refine zB.intro (fun _=>?_) (fun hn=>absurd rfl hn)) | (refine ky0 ?_) | (refine kn0 ?_) | (refine ky ?_) | (refine kn ?_) | (refine sd ?_))
     refine zB.intro (fun hpv=>?_) (fun hpv=>?_)
     ·have hpv:x.rn < h.pv:=hpv
      have hSk:=fnSkipF T N c hT (by omega) hNc hTv x.rk h6 x.rn x.th h5 h.pv l Nl ml hNl hml (by omega) hlO
      rw [<- hkp] at hSk
      unfold tbM at hSk
      repeat (first | (refine zB.intro (fun _=>?_) (fun hn=>absurd rfl hn)) | (refine ky0 ?_) | (refine kn0 ?_) | (refine sd ?_))
      refine Call.name [(0,[]),(0,[]),(0,[]),(0,[]),(2002,[])] rfl fc (CallP.intro hSk [(1000,(1000,0,none)),(1001,(1001,0,none)),(1002,(1002,0,none)),(1003,(2002,0,none)),(1005,(315,0,none)),(1006,(316,0,none))] rfl fc rfl ?_ rfl ?_)
      ·exact fc
      rintro v M' ⟨T1,k1,n1,L1,e1,m1,cc,nt,ct,hnt,hct,hres,hmc,hL1,rfl,rfl⟩
      obtain ⟨i1,i2,i3,i4,i5⟩:=skr_info hres h6 h5 hx.kp hTv
      have i6:x.kp.length <= Nl:=by rw [hkp,zlT];omega
      dsimp only [zt,zM,zE,ren,zz,zx,zy,look,zG,zX,ev,evL,zV,zcT,zcF,act,zP,zO,Ent.zW]
      repeat (refine sd ?_)
      refine zB.intro (fun he=>?_) (fun he=>?_)
      ·have he:¬ e1 = 0:=he
       repeat (refine sd ?_)
       refine Ret.ghost [.keep 316,.ice 6 16] [] rfl trivial rfl (.tup [.agg (seL { x with rk:=k1,rn:=n1 } (.isl 0 m1 65 [(m1 * 65,.arr m1 65 (kpF L1))])),.a8 z32,.i .i64 e1]) ((1001,.dead) :: tbM nt ct T1 1005) [(1005,(315,0,none))] rfl ?_
        ⟨T1,x,z32,e1,nt,ct,{ x with rk:=k1,rn:=n1 },L1,m1,m1,z32,Or.inr ⟨hf,T1,x,e1,Or.inr (Or.inr ⟨fun h=>hra h.2,hs,T1,k1,n1,L1,e1,Or.inl ⟨hr,hpv,hres⟩,Or.inl ⟨he,rfl,rfl,rfl⟩⟩),Or.inl ⟨he,rfl,rfl,rfl,rfl⟩⟩,hnt,hct,by omega,i4,hL1,Nat.le_refl _,by omega,i2,⟨h1,h2,h3,h4,h5,i1,h7,h8,h9,hx.kp⟩,zlz,fun h=>absurd h he,rfl,rfl⟩ rfl ?_ rfl ?_ rfl
       ·exact fc
       ·exact fc
       ·exact fc
      ·have he:e1 = 0:=Classical.not_not.1 he
       subst he
       refine ⟨(T1,k1,n1,L1,nt,ct,m1,m1),⟨Or.inl ⟨hr,hpv,by show SkRes true T x.rk x.th x.rn h.pv x.kp T1 k1 n1 (L1.take m1) 0;rw [List.take_of_length_le (by omega)];exact hres⟩,hnt,hct,by show nt <= _;omega,i4,i1,hL1,Nat.le_refl _,by show m1 <= _;omega,i2⟩,Le.ghost [.keep 316,.ice 4 16] [] [(203,(3,0,none)),(204,(4,0,none)),(205,(5,0,none)),(206,(6,0,none)),(207,(7,0,none)),(211,(315,0,none))] rfl trivial rfl rfl ?_ rfl ?_ rfl⟩
       ·exact fc
       ·exact fc
     ·have hpv:¬ x.rn < h.pv:=hpv
      repeat (first | (refine zB.intro (fun _=>?_) (fun hn=>absurd rfl hn)) | (refine ky0 ?_) | (refine kn0 ?_) | (refine sd ?_))
      refine ⟨(T,x.rk,x.rn,l,N,c,Nl,ml),⟨Or.inr ⟨fun h=>hpv h.2,rfl,rfl,rfl,hkp.symm,rfl⟩,hT,hNc,by show N <= _;omega,hTv,h6,hNl,hml,by show Nl <= _;omega,hlO⟩,Le.intro [(203,(3,0,none)),(204,(4,0,none)),(205,(5,0,none)),(206,(6,0,none)),(207,(7,0,none)),(211,(1001,0,none))] rfl ?_ rfl ?_ rfl⟩
      ·exact fc
      ·exact fc
    rintro ⟨T1,k1,n1,l1,nt,ct,N1,m1⟩ ⟨hpre,ht1,ht2,ht3,ht4,hk1,hl1,hm1,hN1,hlo1⟩
    have hpre:PreR T x h.pv T1 k1 n1 (l1.take m1) 0:=hpre
    have ht1:T1.length = nt:=ht1
    have ht2:nt <= ct:=ht2
    have ht3:nt <= N + 40:=ht3
    have ht4:∀ y ∈ T1,Valid y.1 y.2:=ht4
    have hk1:k1.length = 32:=hk1
    have hl1:l1.length = N1:=hl1
    have hm1:m1 <= N1:=hm1
    have hN1:N1 <= Nl + 16:=hN1
    have hlo1:∀ y ∈ l1,KpOK y:=hlo1
    obtain ⟨Y,hY⟩:∃ Y:Se,Y = { x with rk:=k1,rn:=n1,kp:=l1.take m1,th:=h.ra }:=⟨_,rfl⟩
    have hYo:Y.OK:=by subst hY;exact ⟨h1,h2,h3,h4,f5,hk1,h7,h8,h9,fun y hy=>hlo1 y (List.mem_of_mem_take hy)⟩
    have hTu:=fn84 T1 nt ct ht1 (by omega) ht2 ht4 Y hYo m1 N1 l1
    have hvT:=tuT_valid ht4 (x:=Y) hYo.mine hYo.th
    have hlT:=tuT_len ht4 (x:=Y) hYo.mine hYo.th
    have hkK:=tuK_length T1 Y
    have hkR:=tuR_length T1 Y
    have hYp:Y.kp = l1.take m1:=by rw [hY]
    have eS:trS T1 Y = { id:=x.id,root:=tuR T1 Y,mine:=x.mine,hs:=false,sk:=x.sk,sn:=x.sn,pv:=x.pv,th:=h.ra,hr:=true,rk:=tuK T1 Y,rn:=0,fi:=false,ag:=z32,sg:=z32,ba:=z32,oc:=0,kp:=l1.take m1 }:=by rw [hY];rfl
    have hTR:TurnR T x h.ra h.pv (tuT T1 Y) (trS T1 Y) 0:=Or.inr (Or.inr ⟨fun h=>hra h.2,hs,T1,k1,n1,l1.take m1,0,hpre,Or.inr ⟨rfl,by rw [hY],by rw [hY],rfl⟩⟩)
    rw [eS] at hTR
    unfold tbM seL at hTu
    rw [show Y.id = x.id by rw [hY],show Y.root = x.root by rw [hY],show Y.mine = x.mine by rw [hY],show Y.hs = x.hs by rw [hY],show Y.sk = x.sk by rw [hY],show Y.sn = x.sn by rw [hY],show Y.pv = x.pv by rw [hY],show Y.th = h.ra by rw [hY],show Y.hr = x.hr by rw [hY],show Y.rk = k1 by rw [hY],show Y.rn = n1 by rw [hY],show Y.fi = x.fi by rw [hY],show Y.ag = x.ag by rw [hY],show Y.sg = x.sg by rw [hY],show Y.ba = x.ba by rw [hY],show Y.oc = x.oc by rw [hY]] at hTu
    repeat (refine sd ?_)
    refine Call.intro hTu [(1000,(1000,0,none)),(1001,(211,0,none)),(1002,(1002,0,none)),(1007,(204,0,none)),(1005,(306,0,none))] rfl ?_ rfl ?_ rfl ?_
    ·exact fc
    ·exact fc
    rintro v M' ⟨n2,c2,hn2,hc2,rfl,rfl⟩
    dsimp only [zt,zM,zE,ren,zz,zx,zy,look,zG,zX,ev,evL,zV,zcT,zcF,act,zP,zO,Ent.zW]
    repeat (first | (refine zB.intro (fun _=>?_) (fun hn=>absurd rfl hn)) | (refine ky0 ?_) | (refine kn0 ?_) | (refine sd ?_))
    refine ⟨(tuT T1 Y,{ id:=x.id,root:=tuR T1 Y,mine:=x.mine,hs:=false,sk:=x.sk,sn:=x.sn,pv:=x.pv,th:=h.ra,hr:=true,rk:=tuK T1 Y,rn:=0,fi:=false,ag:=z32,sg:=z32,ba:=z32,oc:=0,kp:=l1.take m1 },l1,n2,c2,N1,m1),⟨hTR,hn2,hc2,by show n2 <= _;omega,hvT,⟨h1,hkR,h3,h4,f5,hkK,zlz,zlz,zlz,fun y hy=>hlo1 y (List.mem_of_mem_take hy)⟩,hl1,hm1,hN1,hlo1,rfl⟩,Le.intro [(203,(203,0,none)),(204,(204,0,none)),(205,(205,0,none)),(206,(206,0,none)),(207,(207,0,none)),(212,(306,0,none))] rfl ?_ rfl ?_ rfl⟩
    ·exact fc
    ·repeat' (first | (show zA _;first | exact trivial | refine zA.app ?_ ?_ | refine zA.zd ?_ ?_ | refine zA.cons ?_ ?_) | exact fd | fail)
     all_goals first | exact Bool.false_ne_true | exact iff_of_true rfl trivial
   ·have hra:=Classical.not_not.1 hra
    have hra:h.ra = x.th:=hra
    repeat (refine sd ?_)
    refine ⟨(T,x,l,N,c,Nl,ml),⟨Or.inl ⟨hr,hra,rfl,rfl,rfl⟩,hT,hNc,by show N <= _;omega,hTv,hx,hNl,hml,by show Nl <= _;omega,hlO,hkp⟩,Le.intro [(203,(3,0,none)),(204,(4,0,none)),(205,(5,0,none)),(206,(6,0,none)),(207,(7,0,none)),(212,(1001,0,none))] rfl ?_ rfl ?_ rfl⟩
    ·exact fc
    ·exact fc
 rintro ⟨T2,X,l2,n2,c2,N2,m2⟩ ⟨hTR,hn2,hc2,hN2,hv2,hXo,hl2,hm2,hN3,hlo2,hkp2⟩
 have hTR:TurnR T x h.ra h.pv T2 X 0:=hTR
 have hn2:T2.length = n2:=hn2
 have hc2:n2 <= c2:=hc2
 have hN2:n2 <= N + 50:=hN2
 have hv2:∀ y ∈ T2,Valid y.1 y.2:=hv2
 have hXo:X.OK:=hXo
 have hl2:l2.length = N2:=hl2
 have hm2:m2 <= N2:=hm2
 have hN3:N2 <= Nl + 16:=hN3
 have hlo2:∀ y ∈ l2,KpOK y:=hlo2
 have hkp2:X.kp = l2.take m2:=hkp2
 have hXo':=hXo
 obtain ⟨g1,g2,g3,g4,g5,g6,g7,g8,g9,_⟩:=hXo'
 have hSk:=fnSkipF T2 n2 c2 hn2 (by omega) hc2 hv2 X.rk g6 X.rn X.th g5 h.n l2 N2 m2 hl2 hm2 (by omega) hlo2
 rw [<- hkp2] at hSk
 unfold tbM at hSk
 repeat (refine sd ?_)
 refine Call.name [(0,[]),(0,[]),(0,[]),(0,[]),(2003,[])] rfl fc (CallP.intro hSk [(1000,(1000,0,none)),(1001,(212,0,none)),(1002,(1002,0,none)),(1003,(2003,0,none)),(1005,(317,0,none)),(1006,(318,0,none))] rfl fc rfl ?_ rfl ?_)
 ·exact fc
 rintro v M' ⟨T1,k1,n1,L1,e1,m1,cc,nt,ct,hnt,hct,hres,hmc,hL1,rfl,rfl⟩
 obtain ⟨i1,i2,i3,i4,i5⟩:=skr_info hres g6 g5 hXo.kp hv2
 have i6:X.kp.length <= N2:=by rw [hkp2,zlT];omega
 dsimp only [zt,zM,zE,ren,zz,zx,zy,look,zG,zX,ev,evL,zV,zcT,zcF,act,zP,zO,Ent.zW]
 repeat (refine sd ?_)
 refine zB.intro (fun he=>?_) (fun he=>?_)
 ·have he:¬ e1 = 0:=he
  repeat (refine sd ?_)
  refine Ret.ghost [.keep 318,.ice 206 16] [] rfl trivial rfl (.tup [.agg (seL { X with rk:=k1,rn:=n1 } (.isl 0 m1 65 [(m1 * 65,.arr m1 65 (kpF L1))])),.a8 z32,.i .i64 e1]) ((1001,.dead) :: tbM nt ct T1 1005) [(1005,(317,0,none))] rfl ?_
   ⟨T1,X,z32,e1,nt,ct,{ X with rk:=k1,rn:=n1 },L1,m1,m1,z32,Or.inr ⟨hf,T2,X,0,hTR,Or.inr ⟨rfl,T1,k1,n1,L1,e1,hres,Or.inl ⟨he,rfl,rfl,rfl,rfl⟩⟩⟩,hnt,hct,by omega,i4,hL1,Nat.le_refl _,by omega,i2,⟨g1,g2,g3,g4,g5,i1,g7,g8,g9,hXo.kp⟩,zlz,fun h=>absurd h he,rfl,rfl⟩ rfl ?_ rfl ?_ rfl
  ·exact fc
  ·exact fc
  ·exact fc
 have he:e1 = 0:=Classical.not_not.1 he
 subst he
 have hNx:=fnNextF T1 nt ct hnt (by omega) hct i4 k1 i1 n1
 have hkN:=zk (nxN T1 k1)
 have hkK:=zk (nxK T1 k1)
 have hlx:=(nxT_len T1 k1).2
 unfold tbM at hNx
 repeat (refine sd ?_)
 refine Call.intro hNx [(1000,(1000,0,none)),(1001,(317,0,none)),(1002,(1002,0,none)),(1005,(319,0,none))] rfl ?_ rfl ?_ rfl ?_
 ·exact fc
 ·exact fc
 rintro v M' (⟨hsn,rfl,rfl⟩ | ⟨hsn,n4,c4,hn4,hc4,rfl,rfl⟩)
 ·dsimp only [zt,zM,zE,ren,zz,zx,zy,look,zG,zX,ev,evL,zV,zcT,zcF,act,zP,zO,Ent.zW]
  repeat (first | (refine zB.intro (fun _=>?_) (fun hn=>absurd rfl hn)) | (refine ky0 ?_) | (refine kn0 ?_) | (refine sd ?_))
  refine Draw.intro [[],[],[],[0],[0,1,3],[0,1,2,3,4]] [0,1,2,3,4,5] (by kernel_rfl) ?_
  repeat (first | (refine Grow.turn rfl rfl ?_) | (refine sd ?_))
  refine Ret.ghost [.keep 318,.ice 206 16] [] rfl trivial rfl (.tup [.agg (seL { X with rk:=z32,rn:=0 } (.isl 0 m1 65 [(m1 * 65,.arr m1 65 (kpF L1))])),.a8 z32,.i .i64 7]) ((1001,.dead) :: tbM nt ct T1 1005) [(1005,(319,0,none))] rfl ?_
   ⟨T1,X,z32,7,nt,ct,{ X with rk:=z32,rn:=0 },L1,m1,m1,z32,Or.inr ⟨hf,T2,X,0,hTR,Or.inr ⟨rfl,T1,k1,n1,L1,0,hres,Or.inr (Or.inl ⟨rfl,hsn,rfl,rfl,rfl,rfl⟩)⟩⟩,hnt,hct,by omega,i4,hL1,Nat.le_refl _,by omega,i2,⟨g1,g2,g3,g4,g5,zlz,g7,g8,g9,hXo.kp⟩,zlz,fun h=>absurd h (by decide),rfl,rfl⟩ rfl ?_ rfl ?_ rfl
  ·exact fc
  ·exact fc
  ·exact fc
 ·dsimp only [zt,zM,zE,ren,zz,zx,zy,look,zG,zX,ev,evL,zV,zcT,zcF,act,zP,zO,Ent.zW]
  repeat (first | (refine zB.intro (fun _=>?_) (fun hn=>absurd rfl hn)) | (refine ky0 ?_) | (refine kn0 ?_) | (refine sd ?_))
  refine Draw.intro [[],[],[],[0],[0,1,3],[0,1,2,3,4]] [0,1,2,3,4,5] (by kernel_rfl) ?_
  repeat (first | (refine Grow.turn rfl rfl ?_) | (refine sd ?_))
  refine Ret.ghost [.keep 318,.ice 206 16] [] rfl trivial rfl (.tup [.agg (seL { X with rk:=kyB (nxN T1 k1),rn:=n1 + 1,kp:=L1 } (.isl 0 m1 65 [(m1 * 65,.arr m1 65 (kpF L1))])),.a8 (kyB (nxK T1 k1)),.i .i64 0]) ((1001,.dead) :: tbM n4 c4 (nxT T1 k1) 1005) [(1005,(319,0,none))] rfl ?_
   ⟨nxT T1 k1,{ X with rk:=kyB (nxN T1 k1),rn:=n1 + 1,kp:=L1 },kyB (nxK T1 k1),0,n4,c4,{ X with rk:=kyB (nxN T1 k1),rn:=n1 + 1,kp:=L1 },L1,m1,m1,kyB (nxK T1 k1),Or.inr ⟨hf,T2,X,0,hTR,Or.inr ⟨rfl,T1,k1,n1,L1,0,hres,Or.inr (Or.inr ⟨rfl,hsn,rfl,rfl,rfl,rfl⟩)⟩⟩,hn4,hc4,by omega,nxT_valid i4 k1,hL1,Nat.le_refl _,by omega,i2,⟨g1,g2,g3,g4,g5,hkN,g7,g8,g9,i2⟩,hkK,fun _=>⟨rfl,by show L1 = _;rw [List.take_of_length_le (by omega)],rfl⟩,rfl,rfl⟩ rfl ?_ rfl ?_ rfl
  ·exact fc
  ·exact fc
  ·exact fc
end Go.Proofs.YtfnmgbillkiabaaGreat
