/- What the functions of the program compute. No condition. -/
import Derived.Test.YtfnmgbillkiabaaGreatHwTbToCh10
import Derived.Test.YtfnmgbillkiabaaGreatHwTabToTab
set_option linter.unusedSimpArgs false
set_option linter.unusedVariables false
set_option maxRecDepth 100000
namespace Go.Proofs.YtfnmgbillkiabaaGreat
open Go Go.Sx
def stp (fr:Bool) (T:List Te) (key:List UInt8):List Te × List UInt8 × List UInt8:=
 match fr with
 | true=>(nxT T key,kyB (nxN T key),kyB (nxK T key))
 | false=>(T,hx1 78 key,hx1 77 key)
def skA (fr:Bool) (T:List Te) (key:List UInt8):Nat->List Te × List UInt8
 | 0=>(T,key)
 | i + 1=>((stp fr (skA fr T key i).1 (skA fr T key i).2).1,(stp fr (skA fr T key i).1 (skA fr T key i).2).2.1)
def skK (fr:Bool) (T:List Te) (key:List UInt8) (i:Nat):List UInt8:=(stp fr (skA fr T key i).1 (skA fr T key i).2).2.2
def skP (fr:Bool) (T:List Te) (key:List UInt8) (r:List UInt8) (n:UInt16) (l:List Kp):Nat->List Kp
 | 0=>l
 | i + 1=>skP fr T key r n l i ++ [(r,n + UInt16.ofNat i,skK fr T key i)]
def skX (fr:Bool) (T:List Te) (key:List UInt8) (r:List UInt8) (n:UInt16) (l:List Kp) (i:Nat):Prop:=0 <= fiI r (n + UInt16.ofNat i) (skP fr T key r n l i)
theorem stp_valid {T:List Te} (fr:Bool) (h:∀ x ∈ T,Valid x.1 x.2) (key:List UInt8):∀ x ∈ (stp fr T key).1,Valid x.1 x.2:=by
 cases fr with
 | true=>exact nxT_valid h key
 | false=>exact h
theorem stp_len (fr:Bool) (T:List Te) (key:List UInt8):(stp fr T key).2.1.length = 32/\(stp fr T key).2.2.length = 32:=by
 cases fr with
 | true=>exact ⟨zk _,zk _⟩
 | false=>exact ⟨hx1_len _ _,hx1_len _ _⟩
theorem stp_tlen (fr:Bool) (T:List Te) (key:List UInt8):(stp fr T key).1.length <= T.length + 2:=by
 cases fr with
 | true=>exact (nxT_len T key).2
 | false=>show T.length <= _;omega
theorem skA_succ (fr:Bool) (T:List Te) (key:List UInt8) (i:Nat):skA fr T key (i + 1) = ((stp fr (skA fr T key i).1 (skA fr T key i).2).1,(stp fr (skA fr T key i).1 (skA fr T key i).2).2.1):=rfl
theorem skP_succ (fr:Bool) (T:List Te) (key:List UInt8) (r:List UInt8) (n:UInt16) (l:List Kp) (i:Nat):skP fr T key r n l (i + 1) = skP fr T key r n l i ++ [(r,n + UInt16.ofNat i,skK fr T key i)]:=rfl
theorem skA_valid {T:List Te} (fr:Bool) (h:∀ x ∈ T,Valid x.1 x.2) (key:List UInt8):∀ i,∀ x ∈ (skA fr T key i).1,Valid x.1 x.2
 | 0=>h
 | i + 1=>by rw [skA_succ];exact stp_valid fr (skA_valid fr h key i) _
theorem skA_tlen (fr:Bool) (T:List Te) (key:List UInt8):∀ i,(skA fr T key i).1.length <= T.length + 2 * i
 | 0=>Nat.le_refl _
 | i + 1=>by
  rw [skA_succ]
  have h1:=stp_tlen fr (skA fr T key i).1 (skA fr T key i).2
  have h2:=skA_tlen fr T key i
  show (stp fr _ _).1.length <= _
  omega
theorem skA_klen (fr:Bool) (T:List Te) {key:List UInt8} (hk:key.length = 32):∀ i,(skA fr T key i).2.length = 32
 | 0=>hk
 | i + 1=>by rw [skA_succ];exact (stp_len fr _ _).1
theorem skK_len (fr:Bool) (T:List Te) (key:List UInt8) (i:Nat):(skK fr T key i).length = 32:=(stp_len fr _ _).2
theorem skP_len (fr:Bool) (T:List Te) (key:List UInt8) (r:List UInt8) (n:UInt16) (l:List Kp):∀ i,(skP fr T key r n l i).length = l.length + i
 | 0=>rfl
 | i + 1=>by rw [skP_succ,zlA,skP_len fr T key r n l i];rfl
theorem skP_ok (fr:Bool) (T:List Te) (key:List UInt8) {r:List UInt8} (hr:r.length = 32) (n:UInt16) {l:List Kp} (hl:∀ x ∈ l,KpOK x):∀ i,∀ x ∈ skP fr T key r n l i,KpOK x
 | 0=>hl
 | i + 1=>by
  rw [skP_succ]
  intro x hx
  rcases List.mem_append.1 hx with hx | hx
  ·exact skP_ok fr T key hr n hl i x hx
  ·rw [List.mem_singleton.1 hx];exact ⟨hr,skK_len fr T key i⟩
theorem skA_zero' (fr:Bool) (T:List Te) (key:List UInt8):skA fr T key 0 = (T,key):=rfl
theorem skP_zero' (fr:Bool) (T:List Te) (key:List UInt8) (r:List UInt8) (n:UInt16) (l:List Kp):skP fr T key r n l 0 = l:=rfl
theorem skK_eq (fr:Bool) (T:List Te) (key:List UInt8) (i:Nat):skK fr T key i = (stp fr (skA fr T key i).1 (skA fr T key i).2).2.2:=rfl
attribute [irreducible] skA skK skP
theorem u16_add {n:UInt16} {i:Nat} (h:n.toNat + i < 65536):(n + UInt16.ofNat i).toNat = n.toNat + i:=by
 rw [UInt16.toNat_add,UInt16.toNat_ofNat']
 omega
theorem u16_lt {a b:UInt16}:a < b ↔ a.toNat < b.toNat:=UInt16.lt_iff_toNat_lt
theorem u16_zero (n:UInt16):n + UInt16.ofNat 0 = n:=by
 apply UInt16.toNat_inj.1;rw [u16_add (by have:=n.toNat_lt;omega)];omega
theorem u16_succ (n:UInt16) (i:Nat):n + UInt16.ofNat i + 1 = n + UInt16.ofNat (i + 1):=by
 apply UInt16.toNat_inj.1
 simp only [UInt16.toNat_add,UInt16.toNat_ofNat']
 show ((n.toNat + i % 2 ^ 16) % 2 ^ 16 + 1) % 2 ^ 16 = (n.toNat + (i + 1) % 2 ^ 16) % 2 ^ 16
 omega
def SkRes (fr:Bool) (T:List Te) (key:List UInt8) (r:List UInt8) (n to:UInt16) (l:List Kp) (T':List Te) (k':List UInt8) (n':UInt16) (L':List Kp) (e:Int):Prop:=
 (to.toNat < n.toNat/\T' = T/\k' = key/\n' = n/\L' = l/\e = 180) \/
 (n.toNat <= to.toNat/\16 < to.toNat - n.toNat + l.length/\T' = T/\k' = key/\n' = n/\L' = l/\e = 181) \/
 (n.toNat <= to.toNat/\to.toNat - n.toNat + l.length <= 16/\(∃ i,i < to.toNat - n.toNat/\skX fr T key r n l i/\(∀ j,j < i->¬ skX fr T key r n l j)/\T' = (skA fr T key (i + 1)).1)/\k' = key/\n' = n/\L' = l/\e = 3) \/
 (n.toNat <= to.toNat/\to.toNat - n.toNat + l.length <= 16/\(∀ j,j < to.toNat - n.toNat->¬ skX fr T key r n l j)/\T' = (skA fr T key (to.toNat - n.toNat)).1/\k' = (skA fr T key (to.toNat - n.toNat)).2/\n' = to/\L' = skP fr T key r n l (to.toNat - n.toNat)/\e = 0)
theorem sub_nat {n to:UInt16} (h:n.toNat <= to.toNat):(to - n).toNat = to.toNat - n.toNat:=by
 rw [UInt16.toNat_sub]
 have:=n.toNat_lt
 have:=to.toNat_lt
 omega
set_option maxHeartbeats 1000000 in
theorem fnSkipF (T:List Te) (nt ct:Nat) (hT:T.length = nt) (hNt:nt <= 40000) (hNct:nt <= ct) (hTv:∀ x ∈ T,Valid x.1 x.2) (key:List UInt8) (hk:key.length = 32) (n:UInt16) (r:List UInt8) (hr:r.length = 32) (to:UInt16) (l:List Kp) (N m:Nat) (hN:l.length = N) (hm:m <= N) (hN1:N <= 1000000) (hOK:∀ x ∈ l,KpOK x) :
  Sx.Fn Γ.P 83 [.agg [(1,.ptr 1000 0 none)],.agg [(32,.a8 key),(1,.u16 n)],.a8 r,.u16 to,.slx 1003 0 0 m] ([(1003,.mem false 0 [(N * 65,.arr N 65 (kpF l))])] ++ tbM nt ct T 1001)
  (fun v M=>∃ T' k' n' L' e m' c nt' ct',T'.length = nt'/\nt' <= ct'/\SkRes true T key r n to (l.take m) T' k' n' L' e/\m' <= c/\L'.length = m'/\v = .tup [.agg [(32,.a8 k'),(1,.u16 n')],.sl 1006 0 0 m' c,.i .i64 e] /\
   M = [(1003,.mem false 0 [(N * 65,.arr N 65 (kpF l))]),(1006,.mem true (zmE (c - m') 65) [(m' * 65,.arr m' 65 (kpF L'))])] ++ ((1001,.dead) :: tbM nt' ct' T' 1005)):=by
 have hlm:(l.take m).length = m:=by rw [zlT];omega
 have hOKm:∀ x ∈ l.take m,KpOK x:=fun x hx=>hOK x (List.mem_of_mem_take hx)
 unfold tbM
 refine fn_of (Γ:=Γ) (fn:=Tryz.f83) rfl rfl rfl rfl ?_
 repeat (refine sd ?_)
 refine zB.intro (fun hc=>?_) (fun hc=>?_)
 ·have hc:to < n:=hc
  rw [u16_lt] at hc
  refine Draw.intro [[],[],[],[1,2],[0,1,2,3],[0,1,2,3,4],[0,1,2,3,4,5]] [0,1,2,3,4,5,6] (by kernel_rfl) ?_
  repeat (refine sd ?_)
  refine fun c hc=>?_
  have hc:0 + m <= c:=hc
  repeat (refine sd ?_)
  refine Grow.auto rfl rfl ?_
  repeat (refine sd ?_)
  refine Ret.intro (.tup [.agg [(32,.a8 key),(1,.u16 n)],.sl 1006 0 0 m c,.i .i64 180]) ([(1003,.mem false 0 [(N * 65,.arr N 65 (kpF l))]),(1006,.mem true (zmE (c - m) 65) [(m * 65,.arr m 65 (kpF (l.take m)))])] ++ ((1001,.dead) :: tbM nt ct T 1005)) [(1006,(25,0,none)),(1005,(1001,0,none))] rfl ?_ ⟨T,key,n,l.take m,180,m,c,nt,ct,hT,hNct,Or.inl ⟨by omega,rfl,rfl,rfl,rfl,rfl⟩,by omega,hlm,rfl,rfl⟩ rfl ?_ rfl ?_ rfl
  ·exact fc
  ·exact fc
  ·repeat' (first | (show zA _;first | exact trivial | refine zA.app ?_ ?_ | refine zA.zd ?_ ?_ | refine zA.cons ?_ ?_) | exact fd | fail)
   all_goals first | exact fun q hq=>(kpF_take l hq) | exact fun _ _=>rfl
 have hc:¬ to < n:=hc
 rw [u16_lt] at hc
 have hsub:=sub_nat (n:=n) (to:=to) (by omega)
 repeat (refine sd ?_)
 refine zB.intro (fun hc2=>?_) (fun hc2=>?_)
 ·have hc2:(16:Int) - m < ((to - n).toNat:Int):=hc2
  rw [hsub] at hc2
  refine Draw.intro [[],[],[],[1,2],[0,1,2,3],[0,1,2,3,4],[0,1,2,3,4,5]] [0,1,2,3,4,5,6] (by kernel_rfl) ?_
  repeat (refine sd ?_)
  refine fun c hc=>?_
  have hc:0 + m <= c:=hc
  repeat (refine sd ?_)
  refine Grow.auto rfl rfl ?_
  repeat (refine sd ?_)
  refine Ret.intro (.tup [.agg [(32,.a8 key),(1,.u16 n)],.sl 1006 0 0 m c,.i .i64 181]) ([(1003,.mem false 0 [(N * 65,.arr N 65 (kpF l))]),(1006,.mem true (zmE (c - m) 65) [(m * 65,.arr m 65 (kpF (l.take m)))])] ++ ((1001,.dead) :: tbM nt ct T 1005)) [(1006,(38,0,none)),(1005,(1001,0,none))] rfl ?_ ⟨T,key,n,l.take m,181,m,c,nt,ct,hT,hNct,Or.inr (Or.inl ⟨by omega,by omega,rfl,rfl,rfl,rfl,rfl⟩),by omega,hlm,rfl,rfl⟩ rfl ?_ rfl ?_ rfl
  ·exact fc
  ·exact fc
  ·repeat' (first | (show zA _;first | exact trivial | refine zA.app ?_ ?_ | refine zA.zd ?_ ?_ | refine zA.cons ?_ ?_) | exact fd | fail)
   all_goals first | exact fun q hq=>(kpF_take l hq) | exact fun _ _=>rfl
 have hc2:¬ (16:Int) - m < ((to - n).toNat:Int):=hc2
 rw [hsub] at hc2
 obtain ⟨d,hd⟩:∃ d,to.toNat - n.toNat = d:=⟨_,rfl⟩
 refine Draw.intro [[],[],[],[1,2],[],[0,1,2,3,4],[0,1,2,3,4,5]] [0,1,2,4,3,5,6] (by kernel_rfl) ?_
 repeat (refine sd ?_)
 refine fun c hc3=>?_
 have hc3:0 + m <= c:=hc3
 repeat (refine sd ?_)
 refine Grow.auto rfl rfl ?_
 repeat (refine sd ?_)
 refine Loop.intro (σ:=Nat × Nat × Nat × Nat) (fun s=>s.1 <= d/\m + s.1 <= s.2.1/\(∀ j,j < s.1->¬ skX true T key r n (l.take m) j)/\(skA true T key s.1).1.length = s.2.2.1/\s.2.2.1 <= s.2.2.2)
  (fun s=>([(3,.u16 to),(4,.slx 1003 0 0 m),(5,.ptr 205 0 none),(6,.ptr 206 0 none),(7,.ptr 207 0 none),(10,.ptr 210 0 none),(13,.ptr 213 0 none),(14,.sl 214 0 0 (m + s.1) s.2.1)],
   [(1003,.mem false 0 [(N * 65,.arr N 65 (kpF l))]),(205,.mem true 0 [(1,.ptr 1000 0 none)]),(206,.mem true 0 [(32,.a8 key),(1,.u16 n)]),(207,.mem true 0 [(32,.a8 r)]),(210,.mem true 0 [(32,.a8 (List.replicate 32 0)),(1,.u16 0)]),
    (213,.mem true 0 [(32,.a8 (skA true T key s.1).2),(1,.u16 (n + UInt16.ofNat s.1))]),(214,.mem true (zmE (s.2.1 - (m + s.1)) 65) [((m + s.1) * 65,.arr (m + s.1) 65 (kpF (skP true T key r n (l.take m) s.1)))]),(1000,.mem true 0 [(1,.sl 211 0 0 s.2.2.1 s.2.2.2),(1,.mp 1002)]),(1001,.dead),(211,.mem true (zmE (s.2.2.2 - s.2.2.1) 3) [(s.2.2.1 * 3,.arr s.2.2.1 3 (ttF (skA true T key s.1).1))]),(1002,.map (.si (mpL (skA true T key s.1).1)))]))
  (fun s=>d - s.1) (0,c,nt,ct) ⟨Nat.zero_le _,by show m + 0 <= c;omega,fun j hj=>absurd hj (Nat.not_lt_zero _),by show (skA true T key 0).1.length = nt;rw [skA_zero'];exact hT,hNct⟩ ?_ ?_
 ·refine Le.intro [(205,(5,0,none)),(206,(6,0,none)),(207,(7,0,none)),(210,(10,0,none)),(213,(13,0,none)),(214,(42,0,none)),(211,(1001,0,none))] rfl ?_ rfl ?_ rfl
  ·exact fc
  ·repeat' (first | (show zA _;first | exact trivial | refine zA.app ?_ ?_ | refine zA.zd ?_ ?_ | refine zA.cons ?_ ?_) | exact fd | fail)
   ·show (skA true T key 0).2 = key;rw [skA_zero']
   ·exact u16_zero n
   ·intro q hq
    show kpF (skP true T key r n (l.take m) 0) q = kpF l q
    rw [skP_zero'];exact kpF_take l hq
   ·intro q hq
    show ttF (skA true T key 0).1 q = _;rw [skA_zero']
   ·show mpL (skA true T key 0).1 = _;rw [skA_zero']
 rintro ⟨i,ci,ni,cti⟩ ⟨hi,hci,hX,hni2,hcti⟩
 have hi:i <= d:=hi
 have hci:m + i <= ci:=hci
 have hX:∀ j,j < i->¬ skX true T key r n (l.take m) j:=hX
 have hni2:(skA true T key i).1.length = ni:=hni2
 have hcti:ni <= cti:=hcti
 have htl:=skA_tlen true T key i
 have hval:=skA_valid true hTv key i
 have hni:(n + UInt16.ofNat i).toNat = n.toNat + i:=u16_add (by have:=to.toNat_lt;omega)
 repeat (refine sd ?_)
 refine zB.intro (fun hc4=>?_) (fun hc4=>?_)
 ·have hc4:n + UInt16.ofNat i < to:=hc4
  rw [u16_lt,hni] at hc4
  have hl1:=skK_len true T key i
  have hl2:=skA_klen true T hk (i + 1)
  have hPl:=skP_len true T key r n (l.take m) i
  rw [hlm] at hPl
  have hPo:=skP_ok true T key hr n hOKm i
  repeat (refine sd ?_)
  have hNx:=fnNextF (skA true T key i).1 ni cti hni2 (by omega) hcti hval (skA true T key i).2 (skA_klen true T hk i) (n + UInt16.ofNat i)
  have eK:kyB (nxK (skA true T key i).1 (skA true T key i).2) = skK true T key i:=(skK_eq true T key i).symm
  have eA:kyB (nxN (skA true T key i).1 (skA true T key i).2) = (skA true T key (i + 1)).2:=by rw [skA_succ];rfl
  have eT:nxT (skA true T key i).1 (skA true T key i).2 = (skA true T key (i + 1)).1:=by rw [skA_succ];rfl
  rw [eK,eA,eT] at hNx
  unfold tbM at hNx
  refine Call.intro hNx [(1000,(1000,0,none)),(1001,(211,0,none)),(1002,(1002,0,none)),(1005,(304,0,none))] rfl fc rfl fc rfl ?_
  rintro v M' (⟨he,_⟩ | ⟨hne,n6,c6,hn6,hc6,rfl,rfl⟩)
  ·have:=congrArg UInt16.toNat he
   rw [hni] at this
   have h2:=to.toNat_lt
   have:n.toNat + i = 65535:=this
   omega
  dsimp only [zt,zM,zE,ren,zz,zx,zy,look,zG,zX,ev,evL,zV,zcT,zcF,act,zP,zO,Ent.zW]
  repeat (refine sd ?_)
  refine zB.intro (fun _=>?_) (fun h=>absurd rfl h)
  have hKp:=fn131 (skP true T key r n (l.take m) i) (m + i) (m + i) hPl (Nat.le_refl _) (by omega) hPo (r,n + UInt16.ofNat i,skK true T key i) ⟨hr,hl1⟩
  have htk:(skP true T key r n (l.take m) i).take (m + i) = skP true T key r n (l.take m) i:=List.take_of_length_le (by omega)
  rw [htk] at hKp
  repeat (refine sd ?_)
  refine Call.intro hKp [(1003,(214,0,none)),(1005,(305,0,none))] rfl fc rfl fc rfl ?_
  rintro v M' (⟨hx,rfl,rfl⟩ | ⟨hx,h16,_⟩ | ⟨hx,h16,c5,hc5,rfl,rfl⟩)
  ·dsimp only [zt,zM,zE,ren,zz,zx,zy,look,zG,zX,ev,evL,zV,zcT,zcF,act,zP,zO,Ent.zW]
   repeat (refine sd ?_)
   refine zB.intro (fun _=>?_) (fun h=>absurd (by decide) h)
   refine Draw.intro [[],[],[],[1,2],[],[0,1,2,3],[0,1,2,3,5],[0,1,2,3,4,5,6]] [0,1,2,4,3,5,6,7] (by kernel_rfl) ?_
   repeat (refine sd ?_)
   refine fun c hc=>?_
   have hc:0 + m <= c:=hc
   repeat (refine sd ?_)
   refine Grow.auto rfl rfl ?_
   repeat (refine sd ?_)
   refine Ret.intro (.tup [.agg [(32,.a8 key),(1,.u16 n)],.sl 1006 0 0 m c,.i .i64 3]) ([(1003,.mem false 0 [(N * 65,.arr N 65 (kpF l))]),(1006,.mem true (zmE (c - m) 65) [(m * 65,.arr m 65 (kpF (l.take m)))])] ++ ((1001,.dead) :: tbM n6 c6 (skA true T key (i + 1)).1 1005)) [(1006,(71,0,none)),(1005,(304,0,none))] rfl ?_ ⟨(skA true T key (i + 1)).1,key,n,l.take m,3,m,c,n6,c6,hn6,hc6,Or.inr (Or.inr (Or.inl ⟨by omega,by omega,⟨i,by omega,hx,hX,rfl⟩,rfl,rfl,rfl,rfl⟩)),by omega,hlm,rfl,rfl⟩ rfl ?_ rfl ?_ rfl
   ·exact fc
   ·exact fc
   ·repeat' (first | (show zA _;first | exact trivial | refine zA.app ?_ ?_ | refine zA.zd ?_ ?_ | refine zA.cons ?_ ?_) | exact fd | fail)
    all_goals first | exact fun q hq=>(kpF_take l hq) | exact fun _ _=>rfl
  ·omega
  dsimp only [zt,zM,zE,ren,zz,zx,zy,look,zG,zX,ev,evL,zV,zcT,zcF,act,zP,zO,Ent.zW]
  repeat (refine sd ?_)
  refine zB.intro (fun h=>absurd rfl h) (fun _=>?_)
  repeat (refine sd ?_)
  refine ⟨(i + 1,c5,n6,c6),⟨by show i + 1 <= d;omega,by show m + (i + 1) <= c5;omega,fun j hj=>?_,hn6,hc6⟩,by show d - (i + 1) < d - i;omega,Le.intro [(205,(205,0,none)),(206,(206,0,none)),(207,(207,0,none)),(210,(210,0,none)),(213,(213,0,none)),(214,(305,0,none)),(211,(304,0,none))] rfl ?_ rfl ?_ rfl⟩
  ·by_cases hji:j = i
   ·subst hji
    intro h
    have h:0 <= fiI r (n + UInt16.ofNat j) (skP true T key r n (l.take m) j):=h
    have hx:fiI r (n + UInt16.ofNat j) (skP true T key r n (l.take m) j) = -1:=hx
    omega
   ·have hj:j < i + 1:=hj
    exact hX j (by omega)
  ·exact fc
  ·repeat' (first | (show zA _;first | exact trivial | refine zA.app ?_ ?_ | refine zA.zd ?_ ?_ | refine zA.cons ?_ ?_) | exact fd | fail)
   ·exact (u16_succ n i).symm
   ·intro q hq
    show kpF (skP true T key r n (l.take m) (i + 1)) q = _
    rw [skP_succ]
 ·have hc4:¬ n + UInt16.ofNat i < to:=hc4
  rw [u16_lt,hni] at hc4
  obtain rfl:i = d:=by omega
  repeat (refine sd ?_)
  have hti:n + UInt16.ofNat i = to:=by apply UInt16.toNat_inj.1;rw [hni];omega
  refine Ret.intro (.tup [.agg [(32,.a8 (skA true T key i).2),(1,.u16 to)],.sl 1006 0 0 (m + i) ci,.i .i64 0]) ([(1003,.mem false 0 [(N * 65,.arr N 65 (kpF l))]),(1006,.mem true (zmE (ci - (m + i)) 65) [((m + i) * 65,.arr (m + i) 65 (kpF (skP true T key r n (l.take m) i)))])] ++ ((1001,.dead) :: tbM ni cti (skA true T key i).1 1005)) [(1006,(214,0,none)),(1005,(211,0,none))] rfl ?_ ⟨(skA true T key i).1,(skA true T key i).2,to,skP true T key r n (l.take m) i,0,m + i,ci,ni,cti,hni2,hcti,Or.inr (Or.inr (Or.inr ⟨by omega,by omega,fun j hj=>hX j (by omega),by rw [hd],by rw [hd],rfl,by rw [hd],rfl⟩)),hci,by rw [skP_len,hlm],rfl,rfl⟩ rfl ?_ rfl ?_ rfl
  ·exact fc
  ·exact fc
  ·exact fc
def sizeF (n:Int):Int:=if n < 0 \/ 1099511627776 < n then 0 else n / 16 * 16 + 16
theorem sizeF_bad {n:Int} (h:n < 0 \/ 1099511627776 < n):sizeF n = 0:=if_pos h
theorem sizeF_ok {n:Int} (h1:¬ n < 0) (h2:¬ 1099511627776 < n):sizeF n = n / 16 * 16 + 16:=if_neg (by omega)
theorem fn134 (n:Int):Sx.Fn Γ.P 134 [.i .i64 n] [] (fun v _=>v = .i .i64 (sizeF n)):=by
 refine fn_of (Γ:=Γ) (fn:=Tryz.f134) rfl rfl rfl rfl ?_
 refine zB.intro (fun h=>?_) (fun h=>?_)
 ·refine Ret.intro (.i .i64 (sizeF n)) [] [] rfl trivial rfl rfl ?_ rfl trivial rfl
  exact sizeF_bad (Or.inl h)
 ·refine zB.intro (fun h2=>?_) (fun h2=>?_)
  ·refine Ret.intro (.i .i64 (sizeF n)) [] [] rfl trivial rfl rfl ?_ rfl trivial rfl
   exact sizeF_bad (Or.inr h2)
  ·repeat (refine sd ?_)
   refine Ret.intro (.i .i64 (sizeF n)) [] [] rfl trivial rfl rfl ?_ rfl trivial rfl
   exact sizeF_ok h h2
@[irreducible] def sizS (n:Int):Int:=if n < 0 \/ 1024 < n then 0 else n / 16 * 16 + 32
theorem sizS_bad {n:Int} (h:n < 0 \/ 1024 < n):sizS n = 0:=by unfold sizS;exact if_pos h
theorem sizS_ok {n:Int} (h1:¬ n < 0) (h2:¬ 1024 < n):sizS n = n / 16 * 16 + 32:=by unfold sizS;exact if_neg (by omega)
theorem fn86 (n:Int):Sx.Fn Γ.P 86 [.i .i64 n] [] (fun v _=>v = .i .i64 (sizS n)):=by
 refine fn_of (Γ:=Γ) (fn:=Tryz.f86) rfl rfl rfl rfl ?_
 repeat (refine sd ?_)
 refine zB.intro (fun h=>?_) (fun h=>?_)
 ·repeat (refine sd ?_)
  refine Ret.intro (.i .i64 (sizS n)) [] [] rfl trivial rfl rfl ?_ rfl trivial rfl
  exact sizS_bad (Or.inl h)
 have h:¬ n < 0:=h
 repeat (refine sd ?_)
 refine zB.intro (fun h2=>?_) (fun h2=>?_)
 ·repeat (refine sd ?_)
  refine Ret.intro (.i .i64 (sizS n)) [] [] rfl trivial rfl rfl ?_ rfl trivial rfl
  exact sizS_bad (Or.inr h2)
 have h2:¬ n > 1024:=h2
 have e:=sizS_ok h (by omega)
 have e1:=sizeF_ok h (by omega)
 refine Call.pure (fn134 n) rfl fc ?_
 intro v hv
 subst hv
 rw [e1]
 repeat (refine sd ?_)
 refine Ret.intro (.i .i64 (sizS n)) [] [] rfl trivial rfl rfl ?_ rfl trivial rfl
 exact fc
end Go.Proofs.YtfnmgbillkiabaaGreat
