/- What the functions of the program compute. No condition. -/
import Derived.Test.YtfnmgbillkiabaaGreatHwAd8ToAd8
import Derived.Test.YtfnmgbillkiabaaGreatHwRb2ToRb2
import Derived.Test.YtfnmgbillkiabaaGreatHwRb4ToRb7
set_option linter.unusedSimpArgs false
set_option linter.unusedVariables false
namespace Go.Proofs.YtfnmgbillkiabaaGreat
open Go Go.Sx
def kb (n:Nat):List UInt8:=UInt8.ofNat n :: List.replicate 31 0
def ex1:List Te × Nat:=mk1 [] 1 (kb 1)
def ex2:List Te × Nat:=mk1 ex1.1 1 (kb 2)
def ex3:List Te × Nat:=mk1 ex2.1 1 (kb 3)
def exX:Ac:=⟨kyB ex1.2,kyB ex2.2,0,kyB ex3.2,1⟩
def ex4:List Te × Nat:=mk1 ex3.1 1 (kb 4)
def ex5:List Te × Nat:=mk1 ex4.1 1 (kb 5)
def ex6:List Te × Nat:=mk1 ex5.1 1 (kb 6)
def exY:Ac:=⟨kyB ex4.2,kyB ex5.2,0,kyB ex6.2,1⟩
def exD:List (List UInt8):=[kb 7,kb 8]
def exT3:List Te:=moT ex6.1 exD 2
def exl:List On:=moK ex6.1 exD [] 1 2
def exX2:Ac:={ exX with nx:=1 + UInt16.ofNat 2 }
def ex7:List Te × Nat:=mk1 exT3 2 exX2.ag
def ex8:List Te × Nat:=mk1 ex7.1 5 exX2.sg
def exA:List On:=(exX2.fi,exX2.fs) :: exl
def exT4:List Te:=bsT ex8.1 5 (kyB ex7.2) (kyB ex8.2) exX2.sg exA 3
def exL:List Bu:=bsL ex8.1 5 (kyB ex7.2) (kyB ex8.2) exX2.sg exA 3
def exb:Bu:=exL.getD 1 bu0
def ey1:List Te × Nat:=mk1 exT4 1 (kb 9)
def ey2:List Te × Nat:=shd ey1.1 [(exY.ag,exb.on),(kyB ey1.2,exb.ag),(kyB ey1.2,exb.on)]
def ey3:List Te × Nat:=mk1 ey2.1 2 exY.ag
def ey4:List Te × Nat:=mk1 ey3.1 5 exY.sg
def ey5:List Te × Nat:=mk1 ey4.1 2 (kyB ey1.2)
def ey6:List Te × Nat:=mkT ey5.1 (7,[73] :: [kyB ey3.2,kyB ey5.2,exb.on])
def exT5:List Te:=(begC ey6.1 (kyB ey2.2) (kb 10)).1
def exa:Se:={ begS ey6.1 (kyB ey6.2) (kyB ey2.2) (kb 10) with fi:=true,ag:=kyB ey3.2,sg:=kyB ey4.2,ba:=kyB ey5.2,oc:=exb.id }
abbrev exp:List UInt8:=[104,105]
def exQ:List Te × Se × Hd × Option (List UInt8) × Int:=sealF exT5 exa z32 exp
def exT6:List Te:=exQ.1
def exh:Hd:=exQ.2.2.1
def exB:List UInt8:=exQ.2.2.2.1.getD []
def exo:List UInt8:=(exA.getD 1 on0).2
def eu2:List Te × Nat:=shd exT6 [(exo,exh.ag),(exX2.ag,exh.ba),(exo,exh.ba)]
def eu3:List Te × Nat:=mk1 eu2.1 2 exo
def eu4:List Te × Nat:=mkT eu3.1 (7,[73] :: [exh.ag,exh.ba,kyB eu3.2])
def exT7:List Te:=(begB eu4.1 (kyB eu2.2)).1
def exk:Se:=joiS eu4.1 exh.ss (kyB eu2.2) exh.ra
instance decValid (k:Int) (L:List (List UInt8)):Decidable (Valid k L):=by unfold Valid;exact inferInstance
theorem ex_t3:(∀ x ∈ exT3,Valid x.1 x.2)/\exT3.length <= 100:=by decide +kernel
theorem ex_t4:(∀ x ∈ exT4,Valid x.1 x.2)/\exT4.length <= 100:=by decide +kernel
theorem ex_t5:(∀ x ∈ exT5,Valid x.1 x.2)/\exT5.length <= 100:=by decide +kernel
theorem ex_t6:(∀ x ∈ exT6,Valid x.1 x.2)/\exT6.length <= 100:=by decide +kernel
theorem ex_t7:(∀ x ∈ exT7,Valid x.1 x.2)/\exT7.length <= 100:=by decide +kernel
theorem ex_v:vfy exT4 exT4.length exb.sg (buB exb.dv exb.ag exb.sg exb.id exb.on) exb.si:=
 ⟨numP (exb.si.take 32) exT4.length 0 - 1,numP exb.sg exT4.length 0 - 1,exX2.sg,by decide +kernel,by decide +kernel,by decide +kernel,by decide +kernel,by decide +kernel⟩
theorem ex_q:exQ.2.2.2.1 = some exB/\exQ.2.2.2.2 = 0:=by decide +kernel
theorem ex_h:exh.fi = true/\fiO exh.id exA = 1/\kyB eu4.2 = exh.ss/\fiO exh.id ((exX2.fi,exX2.fs) :: (exl.take 0 ++ exl.drop 1)) = 2/\exh.n.toNat = 0:=by decide +kernel
theorem ex_n:nxT exT7 exk.rk = exT7:=by decide +kernel
theorem ex_l:fdT (7,[[75],kyB (nxK exT7 exk.rk),hdB exh]) exT7 ≠ 0/\fdT (8,[kyB (fdT (7,[[75],kyB (nxK exT7 exk.rk),hdB exh]) exT7),exp]) exT7 ≠ 0/\exB = sefB (fdT (8,[kyB (fdT (7,[[75],kyB (nxK exT7 exk.rk),hdB exh]) exT7),exp]) exT7) 2/\(hdB exh).length <= 1024:=by decide +kernel
theorem skA_zero9 (fr:Bool) (T:List Te) (key:List UInt8):skA fr T key 0 = (T,key):=skA_zero' fr T key
theorem ex_open:OpenR exT7 exk exh exB exT7 { exk with rk:=kyB (nxN exT7 exk.rk),rn:=exh.n + 1,kp:=skP true exT7 exk.rk exk.th 0 [] exh.n.toNat } (some exp) 0:=by
 obtain ⟨h1,_,_,_,h5⟩:=ex_h
 obtain ⟨l1,l2,l3,l4⟩:=ex_l
 have hA:skA true exT7 exk.rk exh.n.toNat = (exT7,exk.rk):=by rw [h5,skA_zero9]
 have h:=open_next (T:=exT7) (y:=exk) (h:=exh) rfl rfl rfl (by omega) rfl (Or.inl h1) rfl hA ex_n (oL:=fdT (7,[[75],kyB (nxK exT7 exk.rk),hdB exh]) exT7) (p:=exp) ⟨rfl,l1⟩ l4 (oZ:=fdT (8,[kyB (fdT (7,[[75],kyB (nxK exT7 exk.rk),hdB exh]) exT7),exp]) exT7) ⟨rfl,l2⟩ (by show 2 <= 1024;omega) (by have:=ex_t7.2;omega)
 have e:sefB (fdT (8,[kyB (fdT (7,[[75],kyB (nxK exT7 exk.rk),hdB exh]) exT7),exp]) exT7) exp.length = exB:=l3.symm
 rw [e] at h
 exact h
theorem kb_len (n:Nat):(kb n).length = 32:=rfl
theorem ex_x:exX.OK:=⟨zk _,zk _,zk _⟩
theorem ex_x2:exX2.OK:=⟨zk _,zk _,zk _⟩
theorem ex_y:exY.OK:=⟨zk _,zk _,zk _⟩
theorem exl_ok:∀ y ∈ exl,OnOK y:=moK_ok (fun _ h=>by cases h) 2
theorem exl_len:exl.length = 2:=moK_len ex6.1 exD [] 1 2
theorem ex_b:exb.OK:=by
 have h:exb.ag.length = 32/\exb.sg.length = 32/\exb.on.length = 32/\exb.si.length = 64:=by decide +kernel
 exact ⟨h.1,h.2.1,h.2.2.1,h.2.2.2⟩
theorem ex_a:exa.OK:=⟨zk _,zk _,zk _,zk _,zlz,zlz,zk _,zk _,zk _,fun _ h=>by cases h⟩
theorem ex_k:exk.OK:=by
 have h:exh.ss.length = 32/\exh.ra.length = 32:=by decide +kernel
 exact ⟨h.1,zk _,zlz,zlz,h.2,zk _,zlz,zlz,zlz,fun _ h=>by cases h⟩
theorem ex_q2:exQ = (exT6,exQ.2.1,exh,some exB,0):=by
 have h:=ex_q
 show (exQ.1,exQ.2.1,exQ.2.2.1,exQ.2.2.2.1,exQ.2.2.2.2) = _
 rw [h.1,h.2]
 rfl
theorem ex_s:(∀ y ∈ exT6,Valid y.1 y.2)/\exQ.2.1.OK/\exh.OK/\exQ.2.1.kp = []/\exB.length <= 1056:=by
 obtain ⟨h1,_,h3,h4,h5,_,h7⟩:=sealF_info (T:=exT5) ex_t5.1 ex_a z32 exp (show sealF exT5 exa z32 exp = _ from ex_q2)
 exact ⟨h1,h3,h4,h5,(h7 exB rfl).2⟩
theorem exC1:Sx.Fn Γ.P 53 [.agg [(1,.ptr 1000 0 none)],.a8 (kb 1),.a8 (kb 2),.a8 (kb 3)] (tbM 0 0 [] 1001)
  (fun v M=>∃ n' c',ex3.1.length = n'/\n' <= c'/\v = .agg (acL exX (.isl 0 0 33 [(0 * 33,.arr 0 33 (onF []))]))/\M = (1001,.dead) :: tbM n' c' ex3.1 1005):=
 fn53 [] 0 0 rfl (by omega) (Nat.le_refl 0) tb0_valid (kb 1) (kb 2) (kb 3) (kb_len 1) (kb_len 2) (kb_len 3) ex1.1 ex2.1 ex3.1 ex1.2 ex2.2 ex3.2 rfl rfl rfl rfl rfl rfl
theorem ex_t1:(∀ x ∈ ex3.1,Valid x.1 x.2)/\ex3.1.length <= 100:=by decide +kernel
theorem ex_t2:(∀ x ∈ ex6.1,Valid x.1 x.2)/\ex6.1.length <= 100:=by decide +kernel
theorem exC2 (N c:Nat) (hT:ex3.1.length = N) (hNc:N <= c):Sx.Fn Γ.P 53 [.agg [(1,.ptr 1000 0 none)],.a8 (kb 4),.a8 (kb 5),.a8 (kb 6)] (tbM N c ex3.1 1001)
  (fun v M=>∃ n' c',ex6.1.length = n'/\n' <= c'/\v = .agg (acL exY (.isl 0 0 33 [(0 * 33,.arr 0 33 (onF []))]))/\M = (1001,.dead) :: tbM n' c' ex6.1 1005):=
 fn53 ex3.1 N c hT (by have:=ex_t1.2;omega) hNc ex_t1.1 (kb 4) (kb 5) (kb 6) (kb_len 4) (kb_len 5) (kb_len 6) ex4.1 ex5.1 ex6.1 ex4.2 ex5.2 ex6.2 rfl rfl rfl rfl rfl rfl
theorem exC3 (N c:Nat) (hT:ex6.1.length = N) (hNc:N <= c):Sx.Fn Γ.P 54 [.agg [(1,.ptr 1000 0 none)],.agg (acL exX (.isl 0 0 33 [(0 * 33,.arr 0 33 (onF []))])),.slx 1004 0 0 2] ((1004,.mem false 0 [(2 * 32,.arr 2 32 (dF exD))]) :: tbM N c ex6.1 1001)
  (fun v M=>∃ n' c',exT3.length = n'/\n' <= c'/\v = .tup [.agg (acL exX2 (.isl 0 2 33 [(2 * 33,.arr 2 33 (onF exl))])),.i .i64 0]/\M = (1001,.dead) :: (1004,.mem false 0 [(2 * 32,.arr 2 32 (dF exD))]) :: tbM n' c' exT3 1005):=
 fn54 ex6.1 N c hT (by have:=ex_t2.2;omega) hNc ex_t2.1 exX ex_x [] 0 rfl exD 2 rfl (fun d hd=>by
  rcases List.mem_cons.1 hd with rfl | hd
  ·exact kb_len 7
  ·rw [List.mem_singleton.1 hd];exact kb_len 8) (by omega) (by show (1:UInt16).toNat + 2 <= 65535;decide)
theorem exC4 (N c:Nat) (hT:exT3.length = N) (hNc:N <= c):Sx.Fn Γ.P 55 [.agg [(1,.ptr 1000 0 none)],.agg (acL exX2 (.isl 0 2 33 [(2 * 33,.arr 2 33 (onF exl))])),.u8 5] (tbM N c exT3 1001)
  (fun v M=>∃ n' c',exT4.length = n'/\n' <= c'/\v = .isl 0 3 162 [(3 * 162,.arr 3 162 (buF exL))]/\M = (1001,.dead) :: tbM n' c' exT4 1005):=
 fn55 exT3 N c hT (by have:=ex_t3.2;omega) hNc ex_t3.1 exX2 ex_x2 exl 2 exl_len (by omega) exl_ok 5 ex7.1 ex8.1 ex7.2 ex8.2 rfl rfl rfl rfl exA rfl
theorem exC5 (N:Nat) (hT:exT4.length = N):Sx.Fn Γ.P 56 [.agg [(1,.ptr 1000 0 none)],.agg (buR exb)] [(1000,.mem false 0 [(1,.slx 1001 0 0 N),(1,.mp 1002)]),(1001,.mem false 0 [(N * 3,.arr N 3 (ttF exT4))]),(1002,.dead)]
  (fun v M=>v = .tt/\M = [(1000,.mem false 0 [(1,.slx 1001 0 0 N),(1,.mp 1002)]),(1001,.mem false 0 [(N * 3,.arr N 3 (ttF exT4))]),(1002,.dead)]):=
 fn56 exT4 N hT (by have:=ex_t4.2;omega) ex_t4.1 exb ex_b (by subst hT;exact ex_v)
theorem exC6 (N c:Nat) (hT:exT4.length = N) (hNc:N <= c):Sx.Fn Γ.P 57 [.agg [(1,.ptr 1000 0 none)],.agg (acL exY (.isl 0 0 33 [(0 * 33,.arr 0 33 (onF []))])),.agg (buR exb),.a8 (kb 9),.a8 (kb 10)] (tbM N c exT4 1001)
  (fun v M=>∃ n' c',exT5.length = n'/\n' <= c'/\v = .tup [.agg (seL exa (.isl 0 0 65 [(0 * 65,.arr 0 65 (kpF []))])),.i .i64 0]/\M = (1001,.dead) :: tbM n' c' exT5 1005):=
 fn57 exT4 N c hT (by have:=ex_t4.2;omega) hNc ex_t4.1 exY ex_y [] 0 rfl (by omega) exb ex_b (by subst hT;exact ex_v) (kb 9) (kb 10) (kb_len 9) (kb_len 10) ey1.1 ey2.1 ey3.1 ey4.1 ey5.1 ey6.1 ey1.2 ey2.2 ey3.2 ey4.2 ey5.2 ey6.2 rfl rfl rfl rfl rfl rfl
theorem exC7 (N c:Nat) (hT:exT5.length = N) (hNc:N <= c):Sx.Fn Γ.P 20 [.agg [(1,.ptr 1000 0 none)],.agg (seL exa (.isl 0 0 65 [(0 * 65,.arr 0 65 (kpF []))])),.a8 z32,.isl 0 2 1 [(2,.a8 exp)]] (tbM N c exT5 1001)
  (fun v M=>∃ n' c' k,exT6.length = n'/\n' <= c'/\exB.length = k/\v = .tup [.agg (seL exQ.2.1 (.isl 0 0 65 [(0 * 65,.arr 0 65 (kpF []))])),hdV exh,.sl 1009 0 0 k k,.i .i64 0]/\M = (1001,.dead) :: (1009,.mem true 0 [(k,.a8 exB)]) :: tbM n' c' exT6 1005):=by
 have h:=fn20 exT5 N c hT (by have:=ex_t5.2;omega) hNc ex_t5.1 exa ex_a [] 0 0 rfl (Nat.le_refl 0) (by omega) rfl z32 exp 2 zlz rfl (by omega)
 intro ρ xs w a b
 refine Calls.mono (h ρ xs w a b) ?_
 rintro e w' ⟨v,x,ρ',M',e1,e2,⟨T',x',h',bb,ee,n',c',hF,hn',hc',hcase⟩,e4,e5,e6⟩
 have hF:exQ = (T',x',h',bb,ee):=hF
 rw [ex_q2] at hF
 simp only [zpI] at hF
 obtain ⟨rfl,rfl,rfl,rfl,rfl⟩:=hF
 rcases hcase with ⟨h0,_⟩ | ⟨B,k,h0,hk,hv,hM⟩
 ·cases h0
 ·obtain rfl:=Option.some.inj h0
  exact ⟨v,x,ρ',M',e1,e2,⟨n',c',k,hn',hc',hk,hv,hM⟩,e4,e5,e6⟩
theorem exC8 (N c:Nat) (hT:exT6.length = N) (hNc:N <= c):Sx.Fn Γ.P 58 [.agg [(1,.ptr 1000 0 none)],.agg (acL exX2 (.isl 0 2 33 [(2 * 33,.arr 2 33 (onF exl))])),hdV exh] (tbM N c exT6 1001)
  (fun v M=>∃ n' c',exT7.length = n'/\n' <= c'/\v = .tup [.agg (acL exX2 (.isl 0 1 33 [(1 * 33,.arr 1 33 (onF (exl.take 0 ++ exl.drop 1)))])),.agg (seL exk (.isl 0 0 65 [(0 * 65,.arr 0 65 (kpF []))])),.i .i64 0]/\M = (1001,.dead) :: tbM n' c' exT7 1005):=
 fnAnswerYes exT6 N c hT (by have:=ex_t6.2;omega) hNc ex_t6.1 exX2 ex_x2 exl 2 exl_len (by omega) exl_ok exh ex_s.2.2.1 ex_h.1 exA rfl 1 (by omega) (by omega) ex_h.2.1 exo rfl eu2.1 eu3.1 eu4.1 eu2.2 eu3.2 eu4.2 rfl rfl rfl ex_h.2.2.1
theorem exC9 (N c:Nat) (hT:exT7.length = N) (hNc:N <= c) (k:Nat) (hk:exB.length = k):Sx.Fn Γ.P 15 [.agg [(1,.ptr 1000 0 none)],.agg (seL exk (.isl 0 0 65 [(0 * 65,.arr 0 65 (kpF []))])),hdV exh,.slx 1003 0 0 k] ((1003,.mem false 0 [(k,.a8 exB)]) :: tbM N c exT7 1001)
  (fun v M=>∃ x' n' c' le Ne me,exT7.length = n'/\n' <= c'/\x'.OK/\v = .tup [.agg (seL x' (.isl 0 me 65 [(Ne * 65,.arr Ne 65 (kpF le))])),.isl 0 2 1 [(2,.a8 exp)],.i .i64 0]/\M = (1001,.dead) :: (1003,.mem false 0 [(k,.a8 exB)]) :: tbM n' c' exT7 1005):=by
 have h:=fn15 exT7 N c hT (by have:=ex_t7.2;omega) hNc ex_t7.1 exk ex_k [] 0 0 rfl (Nat.le_refl 0) (by omega) (fun _ h=>by cases h) rfl exh ex_s.2.2.1 exB k hk (by have:=ex_s.2.2.2.2;omega)
 intro ρ xs w a b
 refine Calls.mono (h ρ xs w a b) ?_
 rintro e w' ⟨v,x,ρ',M',e1,e2,⟨T',x',p,ee,n',c',le,Ne,me,kq,hres,hn',hc',hN',hok',hle,hme,hNe,hkx,hleO,hkq,hk1,hv,hM⟩,e4,e5,e6⟩
 obtain ⟨rfl,rfl,rfl,rfl⟩:=open_det hres ex_open
 have hkq:2 = kq:=hkq
 subst hkq
 exact ⟨v,x,ρ',M',e1,e2,⟨_,n',c',le,Ne,me,hn',hc',hok'.2,hv,hM⟩,e4,e5,e6⟩
theorem exm_ok:∀ y ∈ exl.take 0 ++ exl.drop 1,OnOK y:=by
 intro y hy
 rcases List.mem_append.1 hy with hy | hy
 ·exact exl_ok y (List.mem_of_mem_take hy)
 ·exact exl_ok y (List.mem_of_mem_drop hy)
theorem exC10 (N c:Nat) (hT:exT7.length = N) (hNc:N <= c):Sx.Fn Γ.P 58 [.agg [(1,.ptr 1000 0 none)],.agg (acL exX2 (.isl 0 1 33 [(1 * 33,.arr 1 33 (onF (exl.take 0 ++ exl.drop 1)))])),hdV exh] (tbM N c exT7 1001)
  (fun v M=>v = .tup [.agg (acL exX2 (.isl 0 1 33 [(1 * 33,.arr 1 33 (onF (exl.take 0 ++ exl.drop 1)))])),.agg zsL,.i .i64 190]/\M = (1001,.dead) :: tbM N c exT7 1005):=
 fnAnswerNo exT7 N c hT (by have:=ex_t7.2;omega) hNc exX2 ex_x2 (exl.take 0 ++ exl.drop 1) 1 (by rw [zlA,zlT,zlD,exl_len];rfl) (by omega) exm_ok exh ex_s.2.2.1 ex_h.1 _ rfl ex_h.2.2.2.1
theorem ex_i:(exL.getD 2 bu0).id = 2/\(exL.getD 1 bu0) = exb/\exL.length = 3:=⟨by decide +kernel,rfl,bsL_len _ _ _ _ _ _ 3⟩
theorem ex_f:exQ.2.1.fi = true:=by decide +kernel
theorem exd0:dF exD 0 = [(32,.a8 (UInt8.ofNat 7 :: List.replicate 31 0))]:=rfl
theorem exd1:dF exD 1 = [(32,.a8 (UInt8.ofNat 8 :: List.replicate 31 0))]:=rfl
theorem kb_e (n:Nat):kb n = UInt8.ofNat n :: List.replicate 31 0:=rfl
attribute [irreducible] kb ex1 ex2 ex3 exX ex4 ex5 ex6 exY exD exT3 exl exX2 ex7 ex8 exA exT4 exL exb ey1 ey2 ey3 ey4 ey5 ey6 exT5 exa exQ exT6 exh exB exo eu2 eu3 eu4 exT7 exk
end Go.Proofs.YtfnmgbillkiabaaGreat
