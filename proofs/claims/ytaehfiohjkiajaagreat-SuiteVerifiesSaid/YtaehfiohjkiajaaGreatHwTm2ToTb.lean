/- Walks. -/
import Derived.Test.YtaehfiohjkiajaaGreatHwCu10ToTm1
import Derived.Test.YtaehfiohjkiajaaGreatHx7
set_option linter.unusedSimpArgs false
set_option linter.unusedVariables false
set_option maxHeartbeats 4000000
open UInt8 (ofNat ofInt toNat_ofNat')
open List (replicate take_length take drop take_of_length_le getD_eq_getElem?_getD length_cons drop_zero nil_append)
open Nat (zero_add zero_le le_refl mul_one)
open Int (toNat)
set_option maxRecDepth 100000
namespace Go.Proofs.YtaehfiohjkiajaaGreat
open Go Go.Sx
def xK (x:UInt64):Nat->UInt64
 |0=>x
 |i+1=>xK x i/256
theorem yv (x:UInt64):∀i,(xK x i).toNat=x.toNat/256^i
 |0=>by simp[xK]
 |i+1=>by
  simp only[xK,UInt64.toNat_div];rw[yv x i,Nat.div_div_eq_div_mul,Nat.pow_succ];rfl
def qK (x:UInt64) (s:Nat):Nat->List UInt8
 |0=>replicate s 0
 |i+1=>(qK x s i).set (s-1-i) (xK x i%256).toUInt8
theorem aFA (x:UInt64) (s:Nat):∀i,(qK x s i).length=s
 |0=>List.length_replicate
 |i+1=>by simp only[qK,List.length_set,aFA x s i]
theorem aUV (x:UInt64) (i:Nat):(xK x i%256).toUInt8=ofNat (x.toNat/256^i):=by
 apply UInt8.toNat_inj.1;rw[UInt64.toNat_toUInt8,UInt64.toNat_mod,yv,toNat_ofNat'];show _%256%256=_%256;rw[Nat.mod_mod]
theorem aY0 (x:UInt64) {s:Nat} (hs:s<=8):∀i,i<=s->qK x s i=pK x s i
 |0,_=>rfl
 |i+1,h=>by simp only[qK,pK];rw[aY0 x hs i (by omega),aUV,aJ3 x (by omega)]
theorem abB (x:UInt64) {s:Nat} (hs:s<=8):qK x s s=aDF x.toNat s:=by
 rw[aY0 x hs s (le_refl _),aTB x hs]
theorem aL4 (x:UInt64) (s:Nat) (h1:1<=s) (h8:s<=8) (hx:x.toNat/256^s=0):Sx.Fn Γ.P 130 [.u64 x,.i .i64 (s:Int)] []
  (λv M=>v= .tup [.sl 1001 0 0 s s,.tt]/\M=[(1001,.mem true 0 [(s,.a8 (aDF x.toNat s))])]):=by
 have hz:qK x s 0=replicate s 0:=rfl;have hz2:xK x 0=x:=rfl;have hall:=abB x h8;have hx0:xK x s=0:=by
  apply UInt64.toNat_inj.1;rw[yv,hx];rfl
 refine aG (Γ:=Γ) (fn:=Tryz.f130) rfl rfl rfl rfl ?_;refine zB.i (λh=>absurd h (by omega)) (λ_=>?_);refine zB.i (λh=>absurd h (by omega)) (λ_=>?_);refine gB ?_
 refine aY.i (σ:=Nat) (λi=>i<=s)
  (λi=>([(0,.u64 (xK x i)),(1,.i .i64 (s:Int)),(6,.sl 15 0 0 s s),(7,.i .i64 ((s:Int)-1-(i:Int)))],[(15,.mem true 0 [(s,.a8 (qK x s i))])])) (λi=>s-i) 0 (zero_le _) ?_ ?_
 .refine Le.i [] rfl fc rfl fc rfl
 rintro i hi;have hl:=aFA x s i;refine zB.i ?_ ?_<;>intro hc
 .have hc:(s:Int)-1-(i:Int)≥0:=hc
  have hs:qK x s (i+1)=(qK x s i).set (s-1-i) (xK x i%256).toUInt8:=rfl;have hs2:xK x (i+1)=xK x i/256:=rfl;have e1:((s:Int)-1-(i:Int)).toNat=s-1-i:=by omega
  have n1:(256:UInt64)≠0:=by decide
  repeat refine sdR ?_
  refine⟨i+1,by omega,by omega,Le.i [] rfl fc rfl fcR rfl⟩
 obtain rfl:i=s:=by have hc:¬(s:Int)-1-(i:Int)≥0:=hc;omega
 refine gB ?_;refine zB.i (λhn=>absurd hx0 hn) (λ_=>?_);refine gB ?_;refine Ret.i (.tup [.sl 1001 0 0 i i,.tt]) [(1001,.mem true 0 [(i,.a8 (aDF x.toNat i))])] [(1001,(15,0,none))] rfl ?_ ⟨rfl,rfl⟩ rfl ?_ rfl ?_ rfl
 .exact fc
 .exact fc
 repeat' first|exact trivial|refine zA.app ?_ ?_|refine zA.zd ?_ ?_|refine zA.cons ?_ ?_|exact fc|fail
 all_goals exact hall.symm
theorem aMM {n s:Nat} (h:n<256^s):n/256^s=0:=Nat.div_eq_of_lt h
theorem kA {n:Nat} (h:n<18446744073709551616):(UInt64.ofInt (n:Int)).toNat=n:=by
 have e:UInt64.ofInt (n:Int)=UInt64.ofNat n:=by
  unfold UInt64.ofInt;congr 1;omega
 rw[e,UInt64.toNat_ofNat',Nat.mod_eq_of_lt (by omega)]
theorem aJ2 {x:UInt64} {k:Nat} (h:x.toNat/2^k=0):aF x k=0:=by
 rw[aF,Nat.shiftRight_eq_div_pow,h];rfl
theorem acK (n s:Nat) (h1:1<=s) (h8:s<=8) (hn:n<256^s) (hn64:n<18446744073709551616):Sx.Fn Γ.P 91 [.i .i64 (n:Int),.i .i64 (s:Int)] []
  (λv M=>v= .sl 1001 0 0 s s/\M=[(1001,.mem true 0 [(s,.a8 (aDF n s))])]):=by
 have hP:=aL4 (UInt64.ofInt (n:Int)) s h1 h8 (by rw[kA hn64];exact aMM hn);rw[kA hn64]at hP;refine aG (Γ:=Γ) (fn:=Tryz.f91) rfl rfl rfl rfl ?_;refine gB ?_;refine Call.i hP [(1001,(1001,0,none))] rfl fc rfl fc rfl ?_;rintro _ _ ⟨rfl,rfl⟩;refine gB ?_;refine Ret.i (.sl 1001 0 0 s s) [(1001,.mem true 0 [(s,.a8 (aDF n s))])] [(1001,(1001,0,none))] rfl fc ⟨rfl,rfl⟩ rfl fc rfl fc rfl
theorem aa5 {b:List UInt8} (h:b.length=4):∃b0 b1 b2 b3,b=[b0,b1,b2,b3]:=by
 rcases b with _|⟨b0,_|⟨b1,_|⟨b2,_|⟨b3,_|⟨b4,r⟩⟩⟩⟩⟩<;>simp at h;exact⟨b0,b1,b2,b3,rfl⟩
@[irreducible] def kC (n:Nat):List UInt8:=[ofNat 116,ofNat 101,ofNat 114,ofNat 109]++(aDF n 4++replicate 24 0)
theorem oD (n:Nat):kC n=[ofNat 116,ofNat 101,ofNat 114,ofNat 109]++(aDF n 4++replicate 24 0):=by unfold kC;rfl
theorem bc (n:Nat):(kC n).length=32:=by rw[oD];simp[iA]
theorem abM (n:Nat) (hn:n<4294967296):Sx.Fn Γ.P 51 [.i .i64 (n:Int)] [] (λv M=>v= .a8 (kC n)/\M=[]):=by
 have hN:=acK n 4 (by decide) (by decide) (by omega) (by omega);have hl:=iA n 4;have he:=oD n;generalize aDF n 4=b at hN hl he;obtain⟨b0,b1,b2,b3,rfl⟩:=aa5 hl;refine aG (Γ:=Γ) (fn:=Tryz.f51) rfl rfl rfl rfl ?_;refine gB ?_;refine aH.i [[],[],[1],[0,1,2]] r_4 (by kernel_rfl) ?_;refine gB ?_;refine Call.i hN [(1001,(8,0,none))] rfl fc rfl fc rfl ?_;rintro _ _ ⟨rfl,rfl⟩;refine cL.i [(8,.mem true 0 [(4,.a8 [b0,b1,b2,b3])])] rfl rfl ?_;refine gB ?_;refine Ret.i (.a8 (kC n)) [] [] rfl ?_ ⟨rfl,rfl⟩ rfl ?_ rfl trivial rfl
 .exact fc
 repeat' first|exact trivial|refine zA.app ?_ ?_|refine zA.zd ?_ ?_|refine zA.cons ?_ ?_|exact fc|fail
 all_goals(rw[he];exact rfl)
theorem abF (n:Nat) (hn:n<4294967296):Sx.Fn Γ.P 66 [.i .i64 (n:Int)] [] (λv M=>v= .a8 (kC n)/\M=[]):=by
 have hN:=aYR (UInt64.ofInt (n:Int)) 4 (by decide) (by decide) (λ_=>aJ2 (by rw[kA (by omega)];omega));rw[kA (by omega)]at hN;have hl:=iA n 4;have he:=oD n;generalize aDF n 4=b at hN hl he;obtain⟨b0,b1,b2,b3,rfl⟩:=aa5 hl;refine aG (Γ:=Γ) (fn:=Tryz.f66) rfl rfl rfl rfl ?_;refine gB ?_;refine Call.i hN [(1001,(11,0,none))] rfl fc rfl fc rfl ?_;rintro _ _ ⟨rfl,rfl⟩;refine gB ?_;refine Ret.i (.a8 (kC n)) [] [] rfl ?_ ⟨rfl,rfl⟩ rfl ?_ rfl trivial rfl
 .exact fc
 repeat' first|exact trivial|refine zA.app ?_ ?_|refine zA.zd ?_ ?_|refine zA.cons ?_ ?_|exact fc|fail
 all_goals(rw[he];exact rfl)
def gK (b:List UInt8) (o:Nat):Nat->UInt64
 |0=>0
 |i+1=>aQ (gK b o i) 8|||(b.getD (o+i) 0).toUInt64
def nmK (b:List UInt8) (o:Nat):Nat:=(((b.getD (o+4) 0).toNat*256+(b.getD (o+5) 0).toNat)*256+(b.getD (o+6) 0).toNat)*256+(b.getD (o+7) 0).toNat
theorem yu (x:UInt64) (y:UInt8) (h:x.toNat<2^56):(aQ x 8|||y.toUInt64).toNat=x.toNat*256+y.toNat:=by
 have h1:(aQ x 8).toNat=x.toNat*256:=by
  rw[aQ,UInt64.toNat_ofNat',Nat.shiftLeft_eq,Nat.mod_eq_of_lt (by omega)]
 rw[UInt64.toNat_or,h1,UInt8.toNat_toUInt64,show x.toNat*256=x.toNat<<<8 by rw[Nat.shiftLeft_eq],<-Nat.shiftLeft_add_eq_or_of_lt (by have:=y.toNat_lt;omega),Nat.shiftLeft_eq]
theorem gK4 (b:List UInt8) (o:Nat):(gK b (o+4) 4).toNat=nmK b o:=by
 have l0:=(b.getD (o+4) 0).toNat_lt;have l1:=(b.getD (o+5) 0).toNat_lt;have l2:=(b.getD (o+6) 0).toNat_lt;have l3:=(b.getD (o+7) 0).toNat_lt;have e0:(gK b (o+4) 1).toNat=(b.getD (o+4) 0).toNat:=by
  show(aQ 0 8|||(b.getD (o+4+0) 0).toUInt64).toNat=_;rw[yu _ _ (by decide)];show 0*256+_=_;rw[Nat.zero_mul,zero_add,Nat.add_zero]
 have e1:(gK b (o+4) 2).toNat=(b.getD (o+4) 0).toNat*256+(b.getD (o+5) 0).toNat:=by
  show(aQ (gK b (o+4) 1) 8|||(b.getD (o+4+1) 0).toUInt64).toNat=_;rw[yu _ _ (by omega),e0]
 have e2:(gK b (o+4) 3).toNat=((b.getD (o+4) 0).toNat*256+(b.getD (o+5) 0).toNat)*256+(b.getD (o+6) 0).toNat:=by
  show(aQ (gK b (o+4) 2) 8|||(b.getD (o+4+2) 0).toUInt64).toNat=_;rw[yu _ _ (by omega),e1]
 show(aQ (gK b (o+4) 3) 8|||(b.getD (o+4+3) 0).toUInt64).toNat=_;rw[yu _ _ (by omega),e2];rfl
theorem aTS (b:List UInt8) (o:Nat):nmK b o<4294967296:=by
 have l0:=(b.getD (o+4) 0).toNat_lt;have l1:=(b.getD (o+5) 0).toNat_lt;have l2:=(b.getD (o+6) 0).toNat_lt;have l3:=(b.getD (o+7) 0).toNat_lt;unfold nmK;omega
@[irreducible] def iW (b:List UInt8) (most o:Nat):Nat:=if o+32<=b.length/\1<=nmK b o/\nmK b o<=most/\(b.drop o).take 32=kC (nmK b o)then nmK b o else 0
theorem sr (b:List UInt8) (most o:Nat):iW b most o=if o+32<=b.length/\1<=nmK b o/\nmK b o<=most/\(b.drop o).take 32=kC (nmK b o)then nmK b o else 0:=by unfold iW;rfl
theorem aFW (b:List UInt8) (most o:Nat):iW b most o<=most:=by rw[sr];split <;>omega
def inF (b:List UInt8) (most:Nat):Nat->Nat->List Nat
 |0,_=>[]
 |f+1,o=>if b.length<o+32 then[]else if iW b most o=0 then inF b most f (o+1)else iW b most o::inF b most f (o+32)
@[irreducible] def inL (b:List UInt8) (most o:Nat):List Nat:=inF b most (b.length+1-o) o
theorem oG (b:List UInt8) (most:Nat):∀(f g o:Nat),b.length+1-o<=f->b.length+1-o<=g->inF b most f o=inF b most g o
 |0,0,_,_,_=>rfl
 |0,g+1,o,h,_=>by simp only[inF];rw[if_pos (by omega)]
 |f+1,0,o,_,h=>by simp only[inF];rw[if_pos (by omega)]
 |f+1,g+1,o,h,k=>by
  simp only[inF];rw[oG b most f g (o+1) (by omega) (by omega),oG b most f g (o+32) (by omega) (by omega)]
theorem aQ2 {b:List UInt8} {most o:Nat} (h:b.length<o+32):inL b most o=[]:=by
 unfold inL;cases b.length+1-o with
 |zero=>rfl
 |succ f=>simp only[inF];rw[if_pos h]
theorem aAA {b:List UInt8} {most o:Nat} (h:o+32<=b.length) (hz:iW b most o=0):inL b most o=inL b most (o+1):=by
 unfold inL;rw[show b.length+1-o=(b.length-o)+1 by omega];show(if b.length<o+32 then[]else if iW b most o=0 then inF b most (b.length-o) (o+1)else iW b most o::inF b most (b.length-o) (o+32))=_;rw[if_neg (by omega),if_pos hz,oG b most _ (b.length+1-(o+1)) _ (by omega) (by omega)]
theorem aLF {b:List UInt8} {most o:Nat} (h:o+32<=b.length) (hz:iW b most o≠0):inL b most o=iW b most o::inL b most (o+32):=by
 unfold inL;rw[show b.length+1-o=(b.length-o)+1 by omega];show(if b.length<o+32 then[]else if iW b most o=0 then inF b most (b.length-o) (o+1)else iW b most o::inF b most (b.length-o) (o+32))=_;rw[if_neg (by omega),if_neg hz,oG b most _ (b.length+1-(o+32)) _ (by omega) (by omega)]
def toI (l:List Nat):List Int:=l.map Int.ofNat
theorem aUP (b:List UInt8) (n o:Nat) (hb:b.length=n) (h:o+8<=n):Sx.Fn Γ.P 100 [.slx 1003 0 (o+4) 4] [(1003,.mem false 0 [(n,.a8 b)])]
  (λv M=>v= .tup [.u64 (gK b (o+4) 4),.tt]/\M=[(1003,.mem false 0 [(n,.a8 b)])]):=by
 have hz:gK b (o+4) 0=0:=rfl;refine aG (Γ:=Γ) (fn:=Tryz.f100) rfl rfl rfl rfl ?_;refine zB.i (λh=>absurd h (by decide)) (λ_=>?_);refine zB.i (λh=>absurd h (by decide)) (λ_=>?_);refine gB ?_
 refine aY.i (σ:=Nat) (λi=>i<=4)
  (λi=>([(4,.u64 (gK b (o+4) i)),(15,.slx 1003 0 (o+4) 4),(16,.i .i64 4),(17,.i .i64 (i:Int))],[(1003,.mem false 0 [(n,.a8 b)])])) (λi=>4-i) 0 (zero_le _) ?_ ?_
 .refine Le.i [] rfl fc rfl fc rfl
 rintro i hi;refine zB.i ?_ ?_<;>intro hc
 .have hc:(i:Int)<4:=hc
  have hs:gK b (o+4) (i+1)=aQ (gK b (o+4) i) 8|||(b.getD (o+4+i) 0).toUInt64:=rfl
  refine gC ?_;refine⟨i+1,by omega,by omega,Le.i [] rfl fc rfl fcn rfl⟩
 obtain rfl:i=4:=by have hc:¬(i:Int)<4:=hc;omega
 refine gB ?_;refine Ret.i (.tup [.u64 (gK b (o+4) 4),.tt]) [(1003,.mem false 0 [(n,.a8 b)])] [] rfl fc ⟨rfl,rfl⟩ rfl fc rfl fc rfl
theorem aYX (k:List UInt8) (hk:k.length=32):Sx.Fn Γ.P 101 [.a8 k] [] (λv M=>v= .str k/\M=[]):=by
 refine aG (Γ:=Γ) (fn:=Tryz.f101) rfl rfl rfl rfl ?_;refine gB ?_;refine Ret.i (.str k) [] [] rfl ?_ ⟨rfl,rfl⟩ rfl ?_ rfl trivial rfl
 .exact fc
 repeat' first|exact trivial|refine zA.app ?_ ?_|refine zA.zd ?_ ?_|refine zA.cons ?_ ?_|exact fc|fail
 all_goals exact(take_of_length_le (by show k.length<=32;omega)).symm
theorem abJ (b:List UInt8) (n m o:Nat) (hb:b.length=n) (ho:o+m=n) (hm32:32<=m) (most:Nat) (hm:most<4294967296):Sx.Fn Γ.P 56 [.slx 1003 0 o m,.i .i64 (most:Int)] [(1003,.mem false 0 [(n,.a8 b)])]
  (λv M=>v= .i .i64 (iW b most o:Int)/\M=[(1003,.mem false 0 [(n,.a8 b)])]):=by
 have hG:=aUP b n o hb (by omega);have hg:=gK4 b o;have hlt:=aTS b o;have hN:=abF (nmK b o) hlt;have hT:=aYX (kC (nmK b o)) (bc _);have hnl:=bc (nmK b o);have hq:=sr b most o;refine aG (Γ:=Γ) (fn:=Tryz.f56) rfl rfl rfl rfl ?_;refine zB.i (λh=>absurd h (by omega)) (λ_=>?_);refine gB ?_;refine Call.i hG [(1003,(1003,0,none))] rfl fc rfl fc rfl ?_;rintro _ _ ⟨rfl,rfl⟩;refine gN ?_;refine gB ?_;generalize gK b (o+4) 4=g at hg;rw[<-hg]at hlt hN hT hnl hq;clear hG;have hm2:=kA (n:=most) (by omega);by_cases h1:g.toNat<(UInt64.ofNat 1).toNat
 .have hz:iW b most o=0:=by rw[hq,if_neg (λh=>by have h1:g.toNat<1:=h1;omega)]
  refine aH.i [[],[0],[0,1],[0,1,2],[0,1,2],[0,1,2,4],r_6,r_7,r_8,r_9,ek,fe,r_9,[0,1,2,3,4,5,6,7,8,12],[0,1,2,3,4,5,6,7,8,12,13],[0,1,2,3,4,5,6,7,8,12,13,14],na,wG] aBU (by kernel_rfl) ?_
  repeat(first|(refine zB.i (λ_=>?_) (λhn=>absurd rfl hn))|refine ky0 ?_|refine kn0 ?_|refine ky ?_|refine kn ?_|refine sd ?_)
  refine Ret.i (.i .i64 (0:Int)) [(1003,.mem false 0 [(n,.a8 b)])] [] rfl trivial ⟨by rw[hz];rfl,rfl⟩ rfl fc rfl fc rfl
 by_cases h2:g.toNat>(UInt64.ofInt (most:Int)).toNat
 .have hz:iW b most o=0:=by rw[hq,if_neg (λh=>by omega)]
  have h3:(g.toNat<(UInt64.ofNat 1).toNat/\True\/¬g.toNat<(UInt64.ofNat 1).toNat/\(UInt64.ofInt (most:Int)).toNat<g.toNat):=Or.inr ⟨h1,h2⟩;refine aH.i [[],[0],[0,1],[0,1,2],[0,1,2],[0,1,2,4],r_6,r_7,r_8,r_9,ek,fe,r_9,[0,1,2,3,4,5,6,7,8,12],[0,1,2,3,4,5,6,7,8,12,13],[0,1,2,3,4,5,6,7,8,12,13,14],na,wG] aBU (by kernel_rfl) ?_
  repeat(first|(refine zB.i (λ_=>?_) (λhn=>absurd rfl hn))|refine ky0 ?_|refine kn0 ?_|refine ky ?_|refine kn ?_|refine sd ?_)
  refine Ret.i (.i .i64 (0:Int)) [(1003,.mem false 0 [(n,.a8 b)])] [] rfl trivial ⟨by rw[hz];rfl,rfl⟩ rfl fc rfl fc rfl
 have h3:¬(g.toNat<(UInt64.ofNat 1).toNat/\True\/¬g.toNat<(UInt64.ofNat 1).toNat/\(UInt64.ofInt (most:Int)).toNat<g.toNat):=λh=>h.elim (λh=>h1 h.1) (λh=>h2 h.2);refine aH.i [[],[0],[0,1],[0,1,2],[0,1,2],[0,1,2,4],r_6,r_7,r_8,r_9,ek,fe,r_9,[0,1,2,3,4,5,6,7,8,12],[0,1,2,3,4,5,6,7,8,12,13],[0,1,2,3,4,5,6,7,8,12,13,14],na,wG] aBU (by kernel_rfl) ?_;refine zB.i (λhn=>absurd hn h1) (λ_=>?_);refine zB.i (λhn=>absurd hn h1) (λ_=>?_);refine zB.i (λhn=>absurd hn h1) (λ_=>?_);refine zB.i (λhn=>absurd hn h1) (λ_=>?_);refine zB.i (λhn=>absurd hn h3) (λ_=>?_);refine zB.i (λhn=>absurd hn h3) (λ_=>?_);refine sd ?_;refine zB.i (λhn=>absurd hn h3) (λ_=>?_);refine sd ?_;refine zB.i (λhn=>absurd hn h3) (λ_=>?_);refine zB.i (λhn=>absurd hn h3) (λ_=>?_);refine sd ?_;refine zB.i (λhn=>absurd hn h3) (λ_=>?_);refine Call.i hN [] rfl rfl rfl trivial rfl ?_;rintro _ _ ⟨rfl,rfl⟩;refine cL.i [] rfl rfl ?_;refine gN ?_;refine zB.i (λhn=>absurd hn h3) (λ_=>?_);refine Call.i hT [] rfl rfl rfl trivial rfl ?_;rintro _ _ ⟨rfl,rfl⟩;refine gN ?_;refine cL.i [] rfl rfl ?_;refine zB.i (λhn=>absurd hn h3) (λ_=>?_);refine zB.i ?_ ?_<;>intro h4
 .have hz:iW b most o=0:=by
   rw[hq,if_neg];rintro⟨_,_,_,h5⟩;rcases h4 with h4|h4
   .exact h3 h4.1
   exact h4.2 h5
  refine Ret.i (.i .i64 (0:Int)) [(1003,.mem false 0 [(n,.a8 b)])] [] rfl trivial ⟨by rw[hz];rfl,rfl⟩ rfl fc rfl fc rfl
 have h5:(b.drop o).take 32=kC g.toNat:=Classical.byContradiction λh5=>h4 (Or.inr ⟨h3,h5⟩);have hz:iW b most o=g.toNat:=by
  rw[hq,if_pos];refine⟨by omega,?_,?_,h5⟩
  .have h1:¬g.toNat<1:=h1
   omega
  rw[hm2]at h2;omega
 refine gB ?_;refine Ret.i (.i .i64 (g.toNat:Int)) [(1003,.mem false 0 [(n,.a8 b)])] [] rfl fc ⟨by rw[hz],rfl⟩ rfl fc rfl fc rfl
theorem aTQ {b:List UInt8} {most o:Nat} (h:b.getD o 0≠ofNat 116):iW b most o=0:=by
 rw[sr,if_neg];rintro⟨h1,_,_,h2⟩;rw[oD]at h2;apply h;have h3:((b.drop o).take 32).getD 0 0=ofNat 116:=by rw[h2];rfl
 rw[<-h3,getD_eq_getElem?_getD,getD_eq_getElem?_getD,List.getElem?_take,if_pos (by decide),List.getElem?_drop,Nat.add_zero]
theorem aEB (l:List Nat):(toI l).length=l.length:=List.length_map _
theorem ru (b:List UInt8) (n:Nat) (hb:b.length=n) (most:Nat) (hm:most<4294967296) (hn:n<=1000000):Sx.Fn Γ.P 67 [.slx 1003 0 0 n,.i .i64 (most:Int)] [(1003,.mem false 0 [(n,.a8 b)])]
  (λv M=>∃l c,l=toI (inL b most 0)/\l.length<=c/\v= .sl 1001 0 0 l.length c/\M=[(1003,.mem false 0 [(n,.a8 b)]),(1001,.mem true (c-l.length) [(l.length,.ai l)])]):=by
 refine aG (Γ:=Γ) (fn:=Tryz.f67) rfl rfl rfl rfl ?_;refine gB ?_
 refine aY.i (σ:=Nat×List Int×Nat×Nat) (λs=>s.1<=n+40/\s.2.1.length=s.2.2.1/\s.2.2.1<=s.1/\s.2.2.1<=s.2.2.2/\s.2.1++toI (inL b most s.1)=toI (inL b most 0))
  (λs=>([(0,.slx 1003 0 0 n),(1,.i .i64 (most:Int)),(5,.sl 204 0 0 s.2.2.1 s.2.2.2),(6,.i .i64 (s.1:Int))],[(1003,.mem false 0 [(n,.a8 b)]),(204,.mem true (s.2.2.2-s.2.2.1) [(s.2.2.1,.ai s.2.1)])]))
  (λs=>n+40-s.1) (0,[],0,0) ⟨zero_le _,rfl,zero_le _,zero_le _,rfl⟩ ?_ ?_
 .refine Le.ghost [.own 204 [(0,.ai [])]] [(5,204)] [] rfl ⟨rfl,rfl,trivial⟩ rfl rfl fc rfl fc rfl
 rintro⟨o,A,N,c⟩ ⟨ho,hA,hNo,hNc,hI⟩;have ho:o<=n+40:=ho;have hA:A.length=N:=hA;have hNc:N<=c:=hNc;have hNo:N<=o:=hNo;have hI:A++toI (inL b most o)=toI (inL b most 0):=hI;refine gB ?_;refine zB.i ?_ ?_<;>intro hc
 .have hc:(o:Int)+32<=n:=hc
  refine gC ?_;refine zB.i ?_ ?_<;>intro hc2
  .have hz:iW b most o=0:=aTQ λh=>hc2 h
   have hnx:=aAA (by omega) hz;refine gC ?_;refine⟨(o+1,A,N,c),⟨by show o+1<=n+40;omega,hA,by show N<=o+1;omega,hNc,by show A++toI (inL b most (o+1))=_;rw[<-hnx];exact hI⟩,by show n+40-(o+1)<n+40-o;omega,Le.i [] rfl fc rfl fc rfl⟩
  refine gC ?_;have hC:=abJ b n (n-o) o hb (by omega) (by omega) most hm;refine Call.i hC [(1003,(1003,0,none))] rfl fcn rfl fc rfl ?_;rintro _ _ ⟨rfl,rfl⟩;refine gN ?_;have hle:=aFW b most o;refine gC ?_;refine zB.i ?_ ?_<;>intro hc3
  .have hc3:(iW b most o:Int)>0:=hc3
   have hnx:=aLF (b:=b) (most:=most) (o:=o) (by omega) (by omega);refine gC ?_;refineλc2 hc2'=>?_;have hc2':N+1<=c2:=hc2';refine gC ?_;refine⟨(o+32,A++[(iW b most o:Int)],N+1,c2),⟨by show o+32<=n+40;omega,by show(A++[(iW b most o:Int)]).length=N+1;simp[hA],by show N+1<=o+32;omega,hc2',?_⟩,by show n+40-(o+32)<n+40-o;omega,Le.i [(204,(30,0,none))] rfl ?_ rfl ?_ rfl⟩
   .show(A++[(iW b most o:Int)])++toI (inL b most (o+32))=_
    rw[<-hI,hnx,List.append_assoc];rfl
   .exact fcn
   exact fcn
  have hc3:¬(iW b most o:Int)>0:=hc3;have hnx:=aAA (b:=b) (most:=most) (o:=o) (by omega) (by omega);refine gC ?_;refine⟨(o+1,A,N,c),⟨by show o+1<=n+40;omega,hA,by show N<=o+1;omega,hNc,by show A++toI (inL b most (o+1))=_;rw[<-hnx];exact hI⟩,by show n+40-(o+1)<n+40-o;omega,Le.i [] rfl fc rfl fc rfl⟩
 have hc:¬(o:Int)+32<=n:=hc;have hnx:=aQ2 (b:=b) (most:=most) (o:=o) (by omega);have hI2:A=toI (inL b most 0):=by rw[<-hI,hnx];exact(List.append_nil _).symm
 refine gB ?_;refine Ret.i (.sl 1001 0 0 N c) [(1003,.mem false 0 [(n,.a8 b)]),(1001,.mem true (c-N) [(N,.ai A)])] [(1001,(204,0,none))] rfl fc ⟨A,c,hI2,by omega,by rw[hA],by rw[hA]⟩ rfl fc rfl fc rfl
theorem aWD (b:List UInt8) (n:Nat) (hb:b.length=n) (most:Nat) (hm:most<4294967296) (hn:n<=1000000):Sx.Fn Γ.P 64 [.slx 1003 0 0 n,.i .i64 (most:Int)] [(1003,.mem false 0 [(n,.a8 b)])]
  (λv M=>∃l c,l=toI (inL b most 0)/\l.length<=c/\v= .sl 1001 0 0 l.length c/\M=[(1003,.mem false 0 [(n,.a8 b)]),(1001,.mem true (c-l.length) [(l.length,.ai l)])]):=by
 refine aG (Γ:=Γ) (fn:=Tryz.f64) rfl rfl rfl rfl ?_;refine gB ?_
 refine aY.i (σ:=Nat×List Int×Nat×Nat) (λs=>s.1<=n+40/\s.2.1.length=s.2.2.1/\s.2.2.1<=s.1/\s.2.2.1<=s.2.2.2/\s.2.1++toI (inL b most s.1)=toI (inL b most 0))
  (λs=>([(0,.slx 1003 0 0 n),(1,.i .i64 (most:Int)),(5,.sl 204 0 0 s.2.2.1 s.2.2.2),(6,.i .i64 (s.1:Int))],[(1003,.mem false 0 [(n,.a8 b)]),(204,.mem true (s.2.2.2-s.2.2.1) [(s.2.2.1,.ai s.2.1)])]))
  (λs=>n+40-s.1) (0,[],0,0) ⟨zero_le _,rfl,zero_le _,zero_le _,rfl⟩ ?_ ?_
 .refine Le.ghost [.own 204 [(0,.ai [])]] [(5,204)] [] rfl ⟨rfl,rfl,trivial⟩ rfl rfl fc rfl fc rfl
 rintro⟨o,A,N,c⟩ ⟨ho,hA,hNo,hNc,hI⟩;have ho:o<=n+40:=ho;have hA:A.length=N:=hA;have hNc:N<=c:=hNc;have hNo:N<=o:=hNo;have hI:A++toI (inL b most o)=toI (inL b most 0):=hI;refine gB ?_;refine zB.i ?_ ?_<;>intro hc
 .have hc:(n:Int)-o≥32:=hc
  have e4:((o:Int)+4).toNat=o+4:=by omega
  have e5:((o:Int)+5).toNat=o+5:=by omega
  have e6:((o:Int)+6).toNat=o+6:=by omega
  have e7:((o:Int)+7).toNat=o+7:=by omega
  have l4:=(b.getD (o+4) 0).toNat_lt;have l5:=(b.getD (o+5) 0).toNat_lt;have l6:=(b.getD (o+6) 0).toNat_lt;have l7:=(b.getD (o+7) 0).toNat_lt;have hlt:=aTS b o;have hN:=abM (nmK b o) hlt;have hnl:=bc (nmK b o);have hq:=sr b most o;refine aH.i [[],[],[1],[0,1,2],r_4,r_5,r_6,[],[],[8],[7,8,9],[7,8,9,10],[7,8,9,10,11],[7,8,9,10,11,12],oB,[],[],[16],[15,16,17],[15,16,17,18],[15,16,17,18,19],[15,16,17,18,19,20],acJ,[],[],[24],[23,24,25],[23,24,25,26],[23,24,25,26,27],aS3,aS2] aZS (by kernel_rfl) ?_
  repeat(refine fg.i (by repeat' (first|(show zA _;first|exact trivial|refine zA.app ?_ ?_|refine zA.zd ?_ ?_|refine zA.cons ?_ ?_)|with_reducible rfl|with_reducible assumption|omega |(simp only[zero_add,zIn,e4,e5,e6,e7,rng,Ix.val,zQ,addI,szs]<;>omega)|(simp only[zero_add,zIn,e4,e5,e6,e7,rng,Ix.val,zIn,zme,zQ,addI,Option.getD_none,Option.getD_some,zlT,zlD,zlA,List.length_set,List.length_replicate,szs, *]<;>omega)|(simp only[Ix.val];with_reducible assumption)|exact UInt8.toNat_lt _|(apply Eq.trans;(with_reducible assumption);exact rfl)|exact rfl|exactλ_ _=>rfl)) ?_)
  have hk:((b.getD (o+4) 0).toNat:Int)*2^24+((b.getD (o+5) 0).toNat:Int)*2^16+((b.getD (o+6) 0).toNat:Int)*2^8+((b.getD (o+7) 0).toNat:Int)=(nmK b o:Int):=by
   unfold nmK;omega
  simp only[Ix.val,zQ,zero_add,e4,e5,e6,e7];rw[hk];refine Call.i hN [] rfl rfl rfl trivial rfl ?_;rintro _ _ ⟨rfl,rfl⟩;refine gN ?_;refine gB ?_;by_cases h1:1<=((nmK b o:Nat):Int)
  .by_cases h2:((nmK b o:Nat):Int)<=(most:Int)
   .have h3:(1<=((nmK b o:Nat):Int)/\((nmK b o:Nat):Int)<=(most:Int)\/¬1<=((nmK b o:Nat):Int)/\False):=Or.inl ⟨h1,h2⟩
    refine aH.i [[],[0],[0,1],[0,1,2],[0,1,2],r_5,r_6,r_7,r_8,r_8,r_8,[0,1,2,3,4,5,6,7,10],kX,jO,r_8,[0,1,2,3,4,5,6,7,14],na,wG] aBU (by kernel_rfl) ?_
    repeat(first|(refine zB.i (λ_=>?_) (λhn=>absurd rfl hn))|refine ky0 ?_|refine kn0 ?_|refine ky ?_|refine kn ?_|refine sdn ?_)
    have htk:((kC (nmK b o)).drop ((none:Option Nat).getD 0)).take 32=kC (nmK b o):=take_of_length_le (by show(kC (nmK b o)).length<=32;omega);have hdr:o*(Γ.ty 5).size+0=o:=mul_one o;have e32:((o:Int)+32).toNat-o=32:=by omega
    refine zB.i ?_ ?_<;>intro h4
    .have h4:_/\_=_\/_:=h4
     simp only[Ix.val,zQ,zero_add,zIn,e32,htk,hdr]at h4;have h5:(b.drop o).take 32=kC (nmK b o):=by
      rcases h4 with h4|h4
      .exact h4.2
      exact absurd h3 h4.1
     have hz:iW b most o=nmK b o:=by
      rw[hq,if_pos];exact⟨by omega,by omega,by omega,h5⟩
     have hnx:=aLF (b:=b) (most:=most) (o:=o) (by omega) (by omega);rw[hz]at hnx;refine gC ?_;refineλc2 hc2'=>?_;have hc2':N+1<=c2:=hc2';refine gC ?_;refine⟨(o+32,A++[(nmK b o:Int)],N+1,c2),⟨by show o+32<=n+40;omega,by show(A++[(nmK b o:Int)]).length=N+1;simp[hA],by show N+1<=o+32;omega,hc2',?_⟩,by show n+40-(o+32)<n+40-o;omega,Le.i [(204,(67,0,none))] rfl ?_ rfl ?_ rfl⟩
     .show(A++[(nmK b o:Int)])++toI (inL b most (o+32))=_
      rw[<-hI,hnx,List.append_assoc];rfl
     .exact fcn
     exact fcn
    have h4:¬(_/\_=_\/_):=h4;simp only[Ix.val,zQ,zero_add,zIn,e32,htk,hdr]at h4;have hz:iW b most o=0:=by
     rw[hq,if_neg];rintro⟨_,_,_,h5⟩;exact h4 (Or.inl ⟨h3,h5⟩)
    refine gC ?_;have hnx:=aAA (b:=b) (most:=most) (o:=o) (by omega) hz;refine⟨(o+1,A,N,c),⟨by show o+1<=n+40;omega,hA,by show N<=o+1;omega,hNc,by show A++toI (inL b most (o+1))=_;rw[<-hnx];exact hI⟩,by show n+40-(o+1)<n+40-o;omega,Le.i [] rfl fc rfl fc rfl⟩
   have h3:¬(1<=((nmK b o:Nat):Int)/\((nmK b o:Nat):Int)<=(most:Int)\/¬1<=((nmK b o:Nat):Int)/\False):=λh=>h.elim (λh=>h2 h.2) (λh=>h.2);have hz:iW b most o=0:=by rw[hq,if_neg (λh=>by omega)]
   refine aH.i [[],[0],[0,1],[0,1,2],[0,1,2],r_5,r_6,r_7,r_8,r_8,r_8,[0,1,2,3,4,5,6,7,10],kX,jO,r_8,[0,1,2,3,4,5,6,7,14],na,wG] aBU (by kernel_rfl) ?_
   repeat(first|(refine zB.i (λ_=>?_) (λhn=>absurd rfl hn))|refine ky0 ?_|refine kn0 ?_|refine ky ?_|refine kn ?_|refine sd ?_)
   refine gC ?_;have hnx:=aAA (b:=b) (most:=most) (o:=o) (by omega) hz;refine⟨(o+1,A,N,c),⟨by show o+1<=n+40;omega,hA,by show N<=o+1;omega,hNc,by show A++toI (inL b most (o+1))=_;rw[<-hnx];exact hI⟩,by show n+40-(o+1)<n+40-o;omega,Le.i [] rfl fc rfl fc rfl⟩
  have h3:¬(1<=((nmK b o:Nat):Int)/\((nmK b o:Nat):Int)<=(most:Int)\/¬1<=((nmK b o:Nat):Int)/\False):=λh=>h.elim (λh=>h1 h.1) (λh=>h.2);have hz:iW b most o=0:=by rw[hq,if_neg (λh=>by omega)]
  refine aH.i [[],[0],[0,1],[0,1,2],[0,1,2],r_5,r_6,r_7,r_8,r_8,r_8,[0,1,2,3,4,5,6,7,10],kX,jO,r_8,[0,1,2,3,4,5,6,7,14],na,wG] aBU (by kernel_rfl) ?_
  repeat(first|(refine zB.i (λ_=>?_) (λhn=>absurd rfl hn))|refine ky0 ?_|refine kn0 ?_|refine ky ?_|refine kn ?_|refine sd ?_)
  refine gC ?_;have hnx:=aAA (b:=b) (most:=most) (o:=o) (by omega) hz;refine⟨(o+1,A,N,c),⟨by show o+1<=n+40;omega,hA,by show N<=o+1;omega,hNc,by show A++toI (inL b most (o+1))=_;rw[<-hnx];exact hI⟩,by show n+40-(o+1)<n+40-o;omega,Le.i [] rfl fc rfl fc rfl⟩
 have hc:¬(n:Int)-o≥32:=hc;have hnx:=aQ2 (b:=b) (most:=most) (o:=o) (by omega);have hI2:A=toI (inL b most 0):=by rw[<-hI,hnx];exact(List.append_nil _).symm
 refine gB ?_;refine Ret.i (.sl 1001 0 0 N c) [(1003,.mem false 0 [(n,.a8 b)]),(1001,.mem true (c-N) [(N,.ai A)])] [(1001,(204,0,none))] rfl fc ⟨A,c,hI2,by omega,by rw[hA],by rw[hA]⟩ rfl fc rfl fc rfl
def rwF (L:List (List UInt8)) (q:Nat):List (Nat×SV):=[(1,.isl 0 (L.getD q []).length 1 [((L.getD q []).length*1,.a8 (L.getD q []))])]
def rwS (n:Nat) (L:List (List UInt8)):List (Nat×SV):=[(n*1,.arr n 1 (rwF L))]
def jnR:List (List UInt8)->List UInt8
 |[]=>[]
 |x::r=>[ofNat (x.length/256),ofNat x.length]++x++jnR r
@[irreducible] def jnB (L:List (List UInt8)):List UInt8:=ofNat L.length::jnR L
theorem aGW (L:List (List UInt8)):jnB L=ofNat L.length::jnR L:=by unfold jnB;rfl
theorem aGV:∀(L M:List (List UInt8)),jnR (L++M)=jnR L++jnR M
 |[],M=>rfl
 |x::r,M=>by
  show[_,_]++x++jnR (r++M)=[_,_]++x++jnR r++jnR M;rw[aGV r M,List.append_assoc ([_,_]++x)]
theorem dd {α:Type} (d:α):∀(L:List α) (i:Nat),i<L.length->L.take (i+1)=L.take i++[L.getD i d]
 |x::r,0,_=>rfl
 |x::r,i+1,h=>by
  show x::r.take (i+1)=x::(r.take i++[r.getD i d]);rw[dd d r i (by simpa using h)]
@[irreducible] def jnT (L:List (List UInt8)) (i:Nat):List UInt8:=ofNat L.length::jnR (L.take i)
theorem aLD (L:List (List UInt8)):jnT L 0=[ofNat L.length]:=by unfold jnT;rfl
theorem aLE {L:List (List UInt8)} {i:Nat} (h:i<L.length):jnT L (i+1)=(jnT L i++[ofNat ((L.getD i []).length/256),ofNat (L.getD i []).length])++L.getD i []:=by
 unfold jnT;rw[dd [] L i h,aGV];show _::(jnR (L.take i)++([_,_]++L.getD i []++[]))=_::(jnR (L.take i)++_)++_;simp
theorem aQ0 (L:List (List UInt8)):jnT L L.length=jnB L:=by unfold jnT jnB;rw[take_length]
theorem aGT:∀(L:List (List UInt8)),(∀x∈L,x.length<=4096)->(jnR L).length<=4098*L.length
 |[],_=>zero_le _
 |x::r,h=>by
  have h1:=aGT r (λy hy=>h y (List.mem_cons_of_mem _ hy));have h2:=h x (List.mem_cons_self ..);show([_,_]++x++jnR r).length<=4098*(r.length+1);simp only[zlA,length_cons,List.length_nil];omega
theorem aT9 {L:List (List UInt8)} (h:∀x∈L,x.length<=4096):(jnB L).length<=4098*L.length+1:=by
 rw[aGW];have:=aGT L h;simp only[length_cons];omega
theorem aT8 {L:List (List UInt8)} (i:Nat) (h:∀x∈L.take i,x.length<=4096) (hi:i<=L.length):(jnT L i).length<=4098*i+1:=by
 unfold jnT;have:=aGT _ h;rw[zlT]at this;simp only[length_cons];omega
def wA (L:List (List UInt8)):Prop:=L.length<=64/\∀x∈L,x.length<=4096
instance (L:List (List UInt8)):Decidable (wA L):=inferInstanceAs (Decidable (_/\_))
theorem fq {α:Type} (d:α) {L:List α} {i:Nat} (h:i<L.length):L.getD i d∈L:=by
 rw[getD_eq_getElem?_getD,List.getElem?_eq_getElem h];exact List.getElem_mem h
theorem fH (i:Nat):ofInt (i:Int)=ofNat i:=by
 apply UInt8.toNat_inj.1;simp[ofInt]
 try omega
theorem aEM (m:Nat) (h:m<=4096):ofInt ((m:Int)/2^8)=ofNat (m/256):=by
 have:(m:Int)/2^8=((m/256:Nat):Int):=by omega
 rw[this];exact fH _
theorem aZ8 (L:List (List UInt8)) (n:Nat) (hn:L.length=n) (hn1:n<=1000000) (hL:∀x∈L,x.length<=1000000):Sx.Fn Γ.P 65 [.slx 1003 0 0 n] [(1003,.mem false 0 (rwS n L))]
  (λv M=>(¬wA L/\v= .tup [.nsl,.ff]/\M=[(1003,.mem false 0 (rwS n L))])\/∃c N,wA L/\(jnB L).length=N/\N<=c/\v= .tup [.sl 1001 0 0 N c,.tt]/\M=[(1003,.mem false 0 (rwS n L)),(1001,.mem true (c-N) [(N,.a8 (jnB L))])]):=by
 unfold rwS rwF;refine aG (Γ:=Γ) (fn:=Tryz.f65) rfl rfl rfl rfl ?_;refine gB ?_;refine zB.i ?_ ?_<;>intro hc
 .have hc:(n:Int)>64:=hc
  refine gB ?_;refine Ret.i (.tup [.nsl,.ff]) [(1003,.mem false 0 [(n*1,.arr n 1 (rwF L))])] [] rfl trivial (Or.inl ⟨λh=>by have:=h.1;omega,rfl,rfl⟩) rfl fc rfl fc rfl
 have hc:¬(n:Int)>64:=hc;have hz:=aLD L;have hn8:=fH n;refine gB ?_
 refine aY.i (σ:=Nat×Nat×Nat) (λs=>s.1<=n/\(jnT L s.1).length=s.2.1/\s.2.1<=s.2.2/\∀x∈L.take s.1,x.length<=4096)
  (λs=>([(4,.sl 204 0 0 s.2.1 s.2.2),(14,.slx 1003 0 0 n),(15,.i .i64 (n:Int)),(16,.i .i64 (s.1:Int))],[(1003,.mem false 0 [(n*1,.arr n 1 (rwF L))]),(204,.mem true (s.2.2-s.2.1) [(s.2.1,.a8 (jnT L s.1))])]))
  (λs=>n-s.1) (0,1,1) ⟨zero_le _,by show(jnT L 0).length=1;rw[hz];rfl,le_refl _,λx h=>by cases h⟩ ?_ ?_
 .refine Le.i [(204,(13,0,none))] rfl ?_ rfl ?_ rfl
  .exact fc
  repeat' first|exact trivial|refine zA.app ?_ ?_|refine zA.zd ?_ ?_|refine zA.cons ?_ ?_|exact fc|fail
  all_goals(rw[hz,<-hn,<-fH];subst hn;exact rfl)
 rintro⟨i,N,c⟩ ⟨hi,hN,hNc,hT⟩;have hi:i<=n:=hi;have hN:(jnT L i).length=N:=hN;have hNc:N<=c:=hNc;have hT:∀x∈L.take i,x.length<=4096:=hT;have hle:=aT8 i hT (by omega);refine zB.i ?_ ?_<;>intro hc
 .have hc:(i:Int)<n:=hc
  refine gC ?_;obtain⟨m,hm⟩:∃m,(L.getD i []).length=m:=⟨_,rfl⟩;have hmem:=fq [] (L:=L) (i:=i) (by omega);have hm6:m<=1000000:=by rw[<-hm];exact hL _ hmem
  refine zB.i ?_ ?_<;>intro hc2
  .have hc2:((L.getD (fL 0 (toNat (i:Int))) []).length:Int)>4096:=hc2
   rw[zQ,zero_add,zIn,hm]at hc2;refine gB ?_;refine Ret.i (.tup [.nsl,.ff]) [(1003,.mem false 0 [(n*1,.arr n 1 (rwF L))])] [] rfl trivial (Or.inl ⟨λh=>by have:=h.2 _ hmem;omega,rfl,rfl⟩) rfl fc rfl fc rfl
  have hc2:¬((L.getD (fL 0 (toNat (i:Int))) []).length:Int)>4096:=hc2;rw[zQ,zero_add,zIn,hm]at hc2;have hsucc:=aLE (L:=L) (i:=i) (by omega);have hT2:∀x∈L.take (i+1),x.length<=4096:=by
   rw[dd [] L i (by omega)];intro x hx;rcases List.mem_append.1 hx with hx|hx
   .exact hT x hx
   have hx:x=L.getD i []:=by simpa using hx
   rw[hx,hm];omega
  have e1:=aEM m (by omega);have e2:=fH m;have e3:((m:Int)/2^8)=(m:Int)/256:=rfl;rw[hm]at hsucc;have hl1:(jnT L i++[ofNat (m/256),ofNat m]).length=N+2:=by rw[zlA,hN];rfl
  have hl2:(jnT L (i+1)).length=N+2+m:=by rw[hsucc,zlA,hl1,hm]
  refine gC ?_;refineλc1 hc1=>?_;have hc1:N+2<=c1:=hc1;refine gC ?_;refineλc2 hc2'=>?_;have hc2':N+2+m<=c2:=by rw[<-hm];exact hc2'
  refine gC ?_;refine⟨(i+1,N+2+m,c2),⟨by show i+1<=n;omega,hl2,hc2',hT2⟩,by show n-(i+1)<n-i;omega,Le.i [(204,(35,0,none))] rfl ?_ rfl ?_ rfl⟩
  .exact fcn
  repeat' first|exact trivial|refine zA.app ?_ ?_|refine zA.zd ?_ ?_|refine zA.cons ?_ ?_|exact fcn|fail
  all_goals(simp only[bq,drop_zero,Ix.val,zQ,zero_add,zIn,hm];rw[e1,e2,take_of_length_le (l:=L.getD i []) (by omega)];exact hsucc)
 have hc:¬(i:Int)<n:=hc;obtain rfl:i=n:=by omega
 have hall:jnT L i=jnB L:=by rw[<-hn];exact aQ0 L
 have hJ:wA L:=⟨by omega,by rw[<-hn,take_length]at hT;exact hT⟩;refine gB ?_;refine Ret.i (.tup [.sl 1001 0 0 N c,.tt]) [(1003,.mem false 0 [(i*1,.arr i 1 (rwF L))]),(1001,.mem true (c-N) [(N,.a8 (jnB L))])] [(1001,(204,0,none))] rfl fc (Or.inr ⟨c,N,hJ,by rw[<-hall];exact hN,hNc,rfl,rfl⟩) rfl fc rfl fc rfl
theorem acU (m:Nat):aDF m 2=[ofNat (m/256),ofNat m]:=by
 show[ofNat (m/256^1),ofNat (m/256^0)]=_;rw[Nat.pow_one,Nat.pow_zero,Nat.div_one]
theorem ac2 (L:List (List UInt8)) (n:Nat) (hn:L.length=n) (hn1:n<=1000000) (hL:∀x∈L,x.length<=1000000):Sx.Fn Γ.P 49 [.slx 1003 0 0 n] [(1003,.mem false 0 (rwS n L))]
  (λv M=>(¬wA L/\v= .tup [.nsl,.ff]/\M=[(1003,.mem false 0 (rwS n L))])\/∃c N,wA L/\(jnB L).length=N/\N<=c/\v= .tup [.sl 1001 0 0 N c,.tt]/\M=[(1003,.mem false 0 (rwS n L)),(1001,.mem true (c-N) [(N,.a8 (jnB L))])]):=by
 unfold rwS rwF;refine aG (Γ:=Γ) (fn:=Tryz.f49) rfl rfl rfl rfl ?_;refine gB ?_;refine zB.i ?_ ?_<;>intro hc
 .have hc:(n:Int)>64:=hc
  refine gB ?_;refine Ret.i (.tup [.nsl,.ff]) [(1003,.mem false 0 [(n*1,.arr n 1 (rwF L))])] [] rfl trivial (Or.inl ⟨λh=>by have:=h.1;omega,rfl,rfl⟩) rfl fc rfl fc rfl
 have hc:¬(n:Int)>64:=hc;have hz:=aLD L;have hn8:=fH n;refine gB ?_
 refine aY.i (σ:=Nat×Nat×Nat) (λs=>s.1<=n/\(jnT L s.1).length=s.2.1/\s.2.1<=s.2.2/\∀x∈L.take s.1,x.length<=4096)
  (λs=>([(0,.slx 1003 0 0 n),(4,.sl 204 0 0 s.2.1 s.2.2),(5,.i .i64 (s.1:Int))],[(1003,.mem false 0 [(n*1,.arr n 1 (rwF L))]),(204,.mem true (s.2.2-s.2.1) [(s.2.1,.a8 (jnT L s.1))])]))
  (λs=>n-s.1) (0,1,1) ⟨zero_le _,by show(jnT L 0).length=1;rw[hz];rfl,le_refl _,λx h=>by cases h⟩ ?_ ?_
 .refine Le.i [(204,(12,0,none))] rfl ?_ rfl ?_ rfl
  .exact fc
  repeat' first|exact trivial|refine zA.app ?_ ?_|refine zA.zd ?_ ?_|refine zA.cons ?_ ?_|exact fc|fail
  all_goals(rw[hz,<-hn,<-fH];subst hn;exact rfl)
 rintro⟨i,N,c⟩ ⟨hi,hN,hNc,hT⟩;have hi:i<=n:=hi;have hN:(jnT L i).length=N:=hN;have hNc:N<=c:=hNc;have hT:∀x∈L.take i,x.length<=4096:=hT;have hle:=aT8 i hT (by omega);refine zB.i ?_ ?_<;>intro hc
 .have hc:(i:Int)<n:=hc
  refine gC ?_;obtain⟨m,hm⟩:∃m,(L.getD i []).length=m:=⟨_,rfl⟩;have hmem:=fq [] (L:=L) (i:=i) (by omega);have hm6:m<=1000000:=by rw[<-hm];exact hL _ hmem
  refine zB.i ?_ ?_<;>intro hc2
  .have hc2:((L.getD (fL 0 (toNat (i:Int))) []).length:Int)>4096:=hc2
   rw[zQ,zero_add,zIn,hm]at hc2;refine gB ?_;refine Ret.i (.tup [.nsl,.ff]) [(1003,.mem false 0 [(n*1,.arr n 1 (rwF L))])] [] rfl trivial (Or.inl ⟨λh=>by have:=h.2 _ hmem;omega,rfl,rfl⟩) rfl fc rfl fc rfl
  have hc2:¬((L.getD (fL 0 (toNat (i:Int))) []).length:Int)>4096:=hc2;rw[zQ,zero_add,zIn,hm]at hc2;have hsucc:=aLE (L:=L) (i:=i) (by omega);have hT2:∀x∈L.take (i+1),x.length<=4096:=by
   rw[dd [] L i (by omega)];intro x hx;rcases List.mem_append.1 hx with hx|hx
   .exact hT x hx
   have hx:x=L.getD i []:=by simpa using hx
   rw[hx,hm];omega
  rw[hm]at hsucc;have hl1:(jnT L i++[ofNat (m/256),ofNat m]).length=N+2:=by rw[zlA,hN];rfl
  have hl2:(jnT L (i+1)).length=N+2+m:=by rw[hsucc,zlA,hl1,hm]
  have hP:=acK m 2 (by decide) (by decide) (by omega) (by omega);rw[acU]at hP;refine gC ?_;refine Call.i hP [(1001,(31,0,none))] rfl fcn rfl trivial rfl ?_;rintro _ _ ⟨rfl,rfl⟩;refine gN ?_;refine gC ?_;refineλc1 hc1=>?_;have hc1:N+2<=c1:=hc1;refine gC ?_;refineλc2 hc2'=>?_;have hc2':N+2+m<=c2:=by rw[<-hm];exact hc2'
  refine gC ?_;refine⟨(i+1,N+2+m,c2),⟨by show i+1<=n;omega,hl2,hc2',hT2⟩,by show n-(i+1)<n-i;omega,Le.i [(204,(38,0,none))] rfl ?_ rfl ?_ rfl⟩
  .exact fcn
  repeat' first|exact trivial|refine zA.app ?_ ?_|refine zA.zd ?_ ?_|refine zA.cons ?_ ?_|exact fcn|fail
  all_goals(simp only[bq,drop_zero,Ix.val,zQ,zero_add,zIn,hm];rw[take_of_length_le (l:=L.getD i []) (by omega)];exact hsucc)
 have hc:¬(i:Int)<n:=hc;obtain rfl:i=n:=by omega
 have hall:jnT L i=jnB L:=by rw[<-hn];exact aQ0 L
 have hJ:wA L:=⟨by omega,by rw[<-hn,take_length]at hT;exact hT⟩;refine gB ?_;refine Ret.i (.tup [.sl 1001 0 0 N c,.tt]) [(1003,.mem false 0 [(i*1,.arr i 1 (rwF L))]),(1001,.mem true (c-N) [(N,.a8 (jnB L))])] [(1001,(204,0,none))] rfl fc (Or.inr ⟨c,N,hJ,by rw[<-hall];exact hN,hNc,rfl,rfl⟩) rfl fc rfl fc rfl
theorem abU (x y:List UInt8):Sx.Fn Γ.P 30 [.isl 0 x.length 1 [(x.length*1,.a8 x)],.isl 0 y.length 1 [(y.length*1,.a8 y)]] [] (λv M=>v= .bool (x=y)/\M=[]):=by
 refine aG (Γ:=Γ) (fn:=Tryz.f30) rfl rfl rfl rfl ?_;refine gB ?_;have hx:x.take x.length=x:=take_length;have hy:y.take y.length=y:=take_length;refine Ret.i (.bool (x=y)) [] [] rfl trivial ⟨rfl,rfl⟩ rfl ?_ rfl trivial rfl
 repeat' first|exact trivial|refine zA.app ?_ ?_|refine zA.zd ?_ ?_|refine zA.cons ?_ ?_|exact fc|fail
 show x=y↔x.take x.length=y.take y.length;rw[hx,hy]
theorem ac1 (L K:List (List UInt8)) (n m:Nat) (hn:L.length=n) (hm:K.length=m) (hn1:n<=1000000) (hm1:m<=1000000):Sx.Fn Γ.P 50 [.slx 1003 0 0 n,.slx 1004 0 0 m] [(1003,.mem false 0 (rwS n L)),(1004,.mem false 0 (rwS m K))]
  (λv M=>(L=K/\v= .tt\/L≠K/\v= .ff)/\M=[(1003,.mem false 0 (rwS n L)),(1004,.mem false 0 (rwS m K))]):=by
 unfold rwS rwF;refine aG (Γ:=Γ) (fn:=Tryz.f50) rfl rfl rfl rfl ?_;refine gB ?_;refine zB.i ?_ ?_<;>intro hc
 .have hc:(n:Int)≠m:=hc
  refine gB ?_;refine Ret.i .ff [(1003,.mem false 0 [(n*1,.arr n 1 (rwF L))]),(1004,.mem false 0 [(m*1,.arr m 1 (rwF K))])] [] rfl trivial ⟨Or.inr ⟨λh=>hc (by rw[<-hn,<-hm,h]),rfl⟩,rfl⟩ rfl fc rfl fc rfl
 have hc:¬(n:Int)≠m:=hc;refine gB ?_
 refine aY.i (σ:=Nat) (λi=>i<=n/\L.take i=K.take i)
  (λi=>([(0,.slx 1003 0 0 n),(1,.slx 1004 0 0 m),(5,.i .i64 (i:Int))],[(1003,.mem false 0 [(n*1,.arr n 1 (rwF L))]),(1004,.mem false 0 [(m*1,.arr m 1 (rwF K))])]))
  (λi=>n-i) 0 ⟨zero_le _,rfl⟩ ?_ ?_
 .refine Le.i [] rfl fc rfl fc rfl
 rintro i ⟨hi,hT⟩;have hi:i<=n:=hi;refine zB.i ?_ ?_<;>intro hc
 .have hc:(i:Int)<n:=hc
  have hB:=abU (L.getD i []) (K.getD i []);refine aH.i [[],[],[0,1],[0,1,2],[],[],[4,5],[4,5,6],r_8,r_9] ek (by kernel_rfl) ?_;refine gC ?_;refine Call.i hB [] rfl fcn rfl trivial rfl ?_;rintro _ _ ⟨rfl,rfl⟩;refine gN ?_;refine gB ?_;refine zB.i ?_ ?_<;>intro hc2
  .refine gB ?_
   have hne:L.getD i []≠K.getD i []:=hc2;refine Ret.i .ff [(1003,.mem false 0 [(n*1,.arr n 1 (rwF L))]),(1004,.mem false 0 [(m*1,.arr m 1 (rwF K))])] [] rfl trivial ⟨Or.inr ⟨λh=>hne (by rw[h]),rfl⟩,rfl⟩ rfl fc rfl fc rfl
  have heq:L.getD i []=K.getD i []:=Classical.byContradiction hc2;refine gB ?_;refine⟨i+1,⟨by omega,by rw[dd [] L i (by omega),dd [] K i (by omega),hT,heq]⟩,by omega,Le.i [] rfl fc rfl fc rfl⟩
 have hc:¬(i:Int)<n:=hc;obtain rfl:i=n:=by omega
 have hLK:L=K:=by
  rw[<-take_length (l:=L),<-take_length (l:=K),hn,hm];rw[show m=i by omega];exact hT
 refine gB ?_;refine Ret.i .tt [(1003,.mem false 0 [(i*1,.arr i 1 (rwF L))]),(1004,.mem false 0 [(m*1,.arr m 1 (rwF K))])] [] rfl trivial ⟨Or.inl ⟨hLK,rfl⟩,rfl⟩ rfl fc rfl fc rfl
abbrev Te:=Int×List (List UInt8)
def te0:Te:=(0,[])
def prS (L:List (List UInt8)):SV:=.isl 0 L.length 1 [(L.length*1,.arr L.length 1 (rwF L))]
def rtF (T:List Te) (q:Nat):List (Nat×SV):=[(1,.i .i64 (T.getD q te0).1),(1,prS (T.getD q te0).2)]
def bP (k:Int) (L:List (List UInt8)):Prop:=wA L/\1<=k/\k<=8
instance (k:Int) (L:List (List UInt8)):Decidable (bP k L):=inferInstanceAs (Decidable (_/\_/\_))
def fdT (x:Te):List Te->Nat
 |[]=>0
 |y::r=>if y=x then 1 else match fdT x r with
  |0=>0
  |i+1=>i+2
theorem acX {x:Te}:∀{T:List Te} {i:Nat},i<T.length->T.getD i te0=x->(∀j,j<i->T.getD j te0≠x)->fdT x T=i+1
 |y::r,0,_,h,_=>by
  unfold fdT;rw[if_pos (show y=x from h)]
 |y::r,i+1,hi,h,hn=>by
  unfold fdT;rw[if_neg (show¬y=x fromλe=>hn 0 (by omega) e),acX (T:=r) (i:=i) (by simpa using hi) h (λj hj=>hn (j+1) (by omega))]
theorem acT {x:Te}:∀{T:List Te},(∀j,j<T.length->T.getD j te0≠x)->fdT x T=0
 |[],_=>rfl
 |y::r,h=>by
  unfold fdT;rw[if_neg (show¬y=x fromλe=>h 0 (by simp) e),acT (T:=r) (λj hj=>h (j+1) (by simpa using hj))]
theorem aHP (x:Te):∀T:List Te,fdT x T<=T.length
 |[]=>le_refl _
 |y::r=>by
  have:=aHP x r;unfold fdT;split
  .simp
  split
  .simp
  rename_i i h;rw[h]at this;simp only[length_cons];omega
@[irreducible] def mkT (T:List Te) (x:Te):List Te×Nat:=if bP x.1 x.2 then match fdT x T with
 |0=>(T++[x],T.length+1)
 |i+1=>(T,i+1)
 else(T,0)
theorem rm {T:List Te} {x:Te} (h:¬bP x.1 x.2):mkT T x=(T,0):=by unfold mkT;rw[if_neg h]
theorem mf {T:List Te} {x:Te} {i:Nat} (h:bP x.1 x.2) (hf:fdT x T=i+1):mkT T x=(T,i+1):=by unfold mkT;rw[if_pos h,hf]
theorem kE {T:List Te} {x:Te} (h:bP x.1 x.2) (hf:fdT x T=0):mkT T x=(T++[x],T.length+1):=by unfold mkT;rw[if_pos h,hf]
def kyB (o:Nat):List UInt8:=match o with
 |0=>replicate 32 0
 |i+1=>kC (i+1)
theorem zk:∀o,(kyB o).length=32
 |0=>rfl
 |i+1=>bc _
theorem oK {n:Nat} {F H:Nat->List (Nat×SV)} {c:List (Nat×SV)} (h1:∀q,q<n->H q=F q) (h2:H n=c):∀q,q<n+1->H q=aDH n F (aM9 [c]) q:=by
 intro q hq;rcases Nat.lt_or_ge q n with h|h
 .rw[aIY h,h1 q h]
 obtain rfl:q=n:=by omega
 rw[aIZ h,h2];rfl
theorem xz {α:Type} (d:α) {T:List α} {x:α} {q:Nat} (h:q<T.length):(T++[x]).getD q d=T.getD q d:=by
 rw[getD_eq_getElem?_getD,getD_eq_getElem?_getD,List.getElem?_append_left h]
theorem x5 {α:Type} (d:α) (T:List α) (x:α):(T++[x]).getD T.length d=x:=by
 rw[getD_eq_getElem?_getD,List.getElem?_append_right (le_refl _),Nat.sub_self];rfl
theorem acY {T:List Te} {x:Te} {q:Nat} (h:q<T.length):rtF (T++[x]) q=rtF T q:=by
 unfold rtF;rw[xz te0 h]
theorem acZ (T:List Te) (x:Te):rtF (T++[x]) T.length=[(1,.i .i64 x.1),(1,prS x.2)]:=by
 unfold rtF;rw[x5]
def M12 (n c:Nat) (T:List Te) (a m:Nat) (L:List (List UInt8)):Mm:=[(1000,.mem true 0 [(1,.sl a 0 0 n c)]),(a,.mem true (zmE (c-n) 2) [(n*2,.arr n 2 (rtF T))]),(1003,.mem false 0 (rwS m L))]
theorem ac0 (T:List Te) (n c:Nat) (hT:T.length=n) (hn:n<=60000) (hnc:n<=c) (hTs:∀x∈T,x.2.length<=1000000) (k:Int) (L:List (List UInt8)) (m:Nat) (hL:L.length=m) (hm1:m<=1000000) (hLs:∀x∈L,x.length<=1000000):
  Sx.Fn Γ.P 24 [.ptr 1000 0 none,.i .i64 k,.slx 1003 0 0 m] (M12 n c T 1001 m L)
  (λv M=>∃n' c',(mkT T (k,L)).1.length=n'/\n'<=c'/\v= .tup [.a8 (kyB (mkT T (k,L)).2),.bool ((mkT T (k,L)).2≠0)]/\M=(1001,.dead)::M12 n' c' (mkT T (k,L)).1 1005 m L):=by
 have hJ:=ac2 L m hL hm1 hLs;unfold rwS rwF at hJ;unfold M12 rwS rwF;refine aG (Γ:=Γ) (fn:=Tryz.f24) rfl rfl rfl rfl ?_;refine gB ?_;refine Call.i hJ [(1003,(1003,0,none)),(1001,(300,0,none))] rfl fc rfl fc rfl ?_;rintro v M' (⟨hnj,rfl,rfl⟩|⟨c1,N1,hj,hjl,hjc,rfl,rfl⟩)
 .have hmk:mkT T (k,L)=(T,0):=rm λh=>hnj h.1
  refine gN ?_;refine gB ?_;refine Ret.i (.tup [.a8 (replicate 32 0),.bool ((mkT T (k,L)).2≠0)]) [(1001,.dead),(1000,.mem true 0 [(1,.sl 1005 0 0 n c)]),(1005,.mem true (zmE (c-n) 2) [(n*2,.arr n 2 (rtF T))]),(1003,.mem false 0 [(m*1,.arr m 1 (rwF L))])] [(1005,(1001,0,none))] rfl fc ⟨n,c,by rw[hmk];exact hT,hnc,by rw[hmk];rfl,by rw[hmk];rfl⟩ rfl fc rfl fc rfl
 refine gN ?_;refine gB ?_;refine zB.i ?_ ?_<;>intro h1
 .have h1:k<1:=h1
  have hmk:mkT T (k,L)=(T,0):=rm λh=>by have:=h.2.1;simp only at this;omega
  refine gB ?_;refine Ret.i (.tup [.a8 (replicate 32 0),.bool ((mkT T (k,L)).2≠0)]) [(1001,.dead),(1000,.mem true 0 [(1,.sl 1005 0 0 n c)]),(1005,.mem true (zmE (c-n) 2) [(n*2,.arr n 2 (rtF T))]),(1003,.mem false 0 [(m*1,.arr m 1 (rwF L))])] [(1005,(1001,0,none))] rfl fc ⟨n,c,by rw[hmk];exact hT,hnc,by rw[hmk];rfl,by rw[hmk];rfl⟩ rfl fc rfl fc rfl
 have h1:¬k<1:=h1;refine zB.i ?_ ?_<;>intro h2
 .have h2:k>8:=h2
  have hmk:mkT T (k,L)=(T,0):=rm λh=>by have:=h.2.2;simp only at this;omega
  refine gB ?_;refine Ret.i (.tup [.a8 (replicate 32 0),.bool ((mkT T (k,L)).2≠0)]) [(1001,.dead),(1000,.mem true 0 [(1,.sl 1005 0 0 n c)]),(1005,.mem true (zmE (c-n) 2) [(n*2,.arr n 2 (rtF T))]),(1003,.mem false 0 [(m*1,.arr m 1 (rwF L))])] [(1005,(1001,0,none))] rfl fc ⟨n,c,by rw[hmk];exact hT,hnc,by rw[hmk];rfl,by rw[hmk];rfl⟩ rfl fc rfl fc rfl
 have h2:¬k>8:=h2;have hV:bP k L:=⟨hj,by omega,by omega⟩;refine gB ?_
 refine aY.i (σ:=Nat) (λi=>i<=n/\∀j,j<i->T.getD j te0≠(k,L))
  (λi=>([(0,.ptr 1000 0 none),(1,.i .i64 k),(2,.slx 1003 0 0 m),(6,.ptr 6 0 none),(10,.i .i64 (i:Int))],[(1000,.mem true 0 [(1,.sl 1001 0 0 n c)]),(1001,.mem true (zmE (c-n) 2) [(n*2,.arr n 2 (rtF T))]),(1003,.mem false 0 [(m*1,.arr m 1 (rwF L))]),(6,.mem true 0 [(32,.a8 (replicate 32 0))])]))
  (λi=>n-i) 0 ⟨zero_le _,λj hj=>absurd hj (Nat.not_lt_zero _)⟩ ?_ ?_
 .refine Le.i [] rfl fc rfl fc rfl
 rintro i ⟨hi,hne⟩;have hi:i<=n:=hi;refine gB ?_;refine zB.i ?_ ?_<;>intro hc
 .have hc:(i:Int)<n:=hc
  unfold rtF;refine gC ?_;refine zB.i ?_ ?_<;>intro h3
  .have h3:(T.getD i te0).1=k:=h3
   have hB:=ac1 (T.getD i te0).2 L _ m rfl hL (hTs _ (fq te0 (by omega))) hm1;have hlen:=hTs _ (fq te0 (L:=T) (i:=i) (by omega));unfold rwS at hB;refine gC ?_;refine Call.name [(2000,[]),(0,[])] rfl trivial (kW.i hB [(1003,(2000,0,none)),(1004,(1003,0,none))] rfl fcn rfl fcn rfl ?_);rintro v M' ⟨⟨heq,rfl⟩|⟨heq,rfl⟩,rfl⟩
   .have hat:T.getD i te0=(k,L):=Prod.ext h3 heq
    have hmk:mkT T (k,L)=(T,i+1):=mf hV (acX (by omega) hat hne);have hN:=abM (i+1) (by omega);have hnl:=bc (i+1);refine gN ?_;refine gC ?_;refine Call.i hN [] rfl fc rfl trivial rfl ?_;rintro _ _ ⟨rfl,rfl⟩;refine gN ?_;refine gB ?_;refine Ret.i (.tup [.a8 (kC (i+1)),.bool ((mkT T (k,L)).2≠0)]) [(1001,.dead),(1000,.mem true 0 [(1,.sl 1005 0 0 n c)]),(1005,.mem true (zmE (c-n) 2) [(n*2,.arr n 2 (rtF T))]),(1003,.mem false 0 [(m*1,.arr m 1 (rwF L))])] [(1005,(1001,0,none))] rfl fc ⟨n,c,by rw[hmk];exact hT,hnc,by rw[hmk];rfl,by rw[hmk];rfl⟩ rfl fc rfl fc rfl
   refine gN ?_;refine gC ?_;refine⟨i+1,⟨by omega,λj hj=>?_⟩,by omega,Le.i [] rfl ?_ rfl ?_ rfl⟩
   .rcases Nat.lt_or_ge j i with h|h
    .exact hne j h
    obtain rfl:j=i:=by omega
    intro h4;exact heq (by rw[h4])
   .exact fc
   exact fc
  have h3:¬(T.getD i te0).1=k:=h3;refine gC ?_;refine⟨i+1,⟨by omega,λj hj=>?_⟩,by omega,Le.i [] rfl ?_ rfl ?_ rfl⟩
  .rcases Nat.lt_or_ge j i with h|h
   .exact hne j h
   obtain rfl:j=i:=by omega
   intro h4;exact h3 (by rw[h4])
  .exact fc
  exact fc
 have hc:¬(i:Int)<n:=hc;have hmk:mkT T (k,L)=(T++[(k,L)],n+1):=by
  rw[kE hV (acT λj hj=>hne j (by omega)),hT]
 clear hne;refine gB ?_;refine zB.i (λh=>absurd h (by omega)) (λ_=>?_);refine gB ?_
 refine aY.i (σ:=Nat×Nat) (λs=>s.1<=m/\s.1<=s.2)
  (λs=>([(0,.ptr 1000 0 none),(1,.i .i64 k),(2,.slx 1003 0 0 m),(6,.ptr 6 0 none),(11,.sl 204 0 0 s.1 s.2),(12,.i .i64 (s.1:Int))],[(1000,.mem true 0 [(1,.sl 1001 0 0 n c)]),(1001,.mem true (zmE (c-n) 2) [(n*2,.arr n 2 (rtF T))]),(1003,.mem false 0 [(m*1,.arr m 1 (rwF L))]),(6,.mem true 0 [(32,.a8 (replicate 32 0))]),(204,.mem true (s.2-s.1) [(s.1*1,.arr s.1 1 (rwF L))])]))
  (λs=>m-s.1) (0,0) ⟨zero_le _,le_refl _⟩ ?_ ?_
 .refine Le.ghost [.own 204 [(0,.arr 0 1 (rwF L))]] [(11,204)] [] rfl ⟨rfl,rfl,trivial⟩ rfl rfl fc rfl fc rfl
 rintro⟨i2,c2⟩ ⟨hi2,hic⟩;have hi2:i2<=m:=hi2;have hic:i2<=c2:=hic;refine gB ?_;refine zB.i ?_ ?_<;>intro hc
 .have hc:(i2:Int)<m:=hc
  have hll:=hLs _ (fq [] (L:=L) (i:=i2) (by omega));refine gC ?_;refineλc3 hc3=>?_;have hc3:(L.getD i2 []).length<=c3:=by have h:0+(L.getD i2 []).length<=c3:=hc3;omega
  refine gC ?_;refineλc4 hc4=>?_;have hc4:i2+1<=c4:=hc4;refine gC ?_;refine⟨(i2+1,c4),⟨by show i2+1<=m;omega,hc4⟩,by show m-(i2+1)<m-i2;omega,Le.i [(204,(85,0,none))] rfl ?_ rfl ?_ rfl⟩
  .exact fcn
  repeat' first|exact trivial|refine zA.app ?_ ?_|refine zA.zd ?_ ?_|refine zA.cons ?_ ?_|exact fcn|fail
  refine oK (λq _=>by rw[ke,zero_add]) ?_;simp only[zme,bq,drop_zero,Ix.val,zQ,zero_add,zIn,nil_append,take_length,mul_one,rwF]
 have hc:¬(i2:Int)<m:=hc;obtain rfl:i2=m:=by omega
 have hN:=abM (n+1) (by omega);have hnl:=bc (n+1);refine gC ?_;refineλc3 hc3=>?_;have hc3:n+1<=c3:=hc3;refine gC ?_;refine Call.i hN [] rfl fc rfl trivial rfl ?_;rintro _ _ ⟨rfl,rfl⟩;refine gN ?_;refine gB ?_;refine Ret.i (.tup [.a8 (kC (n+1)),.bool ((mkT T (k,L)).2≠0)]) [(1001,.dead),(1000,.mem true 0 [(1,.sl 1005 0 0 (n+1) c3)]),(1005,.mem true (zmE (c3-(n+1)) 2) [((n+1)*2,.arr (n+1) 2 (rtF (T++[(k,L)])))]),(1003,.mem false 0 [(i2*1,.arr i2 1 (rwF L))])] [(1005,(95,0,none))] rfl ?_ ⟨n+1,c3,by rw[hmk];simp[hT],hc3,by rw[hmk];rfl,by rw[hmk];rfl⟩ rfl ?_ rfl ?_ rfl
 .exact fc
 .exact fc
 repeat' first|exact trivial|refine zA.app ?_ ?_|refine zA.zd ?_ ?_|refine zA.cons ?_ ?_|exact fc|fail
 refine oK (λq hq=>acY (by omega)) ?_;subst hT;subst hL;exact acZ T (k,L)
theorem re {a b:Nat} (ha:a<256) (hb:b<256) (h:ofNat a=ofNat b):a=b:=by
 have:=congrArg UInt8.toNat h;rw[toNat_ofNat',toNat_ofNat',Nat.mod_eq_of_lt (by omega),Nat.mod_eq_of_lt (by omega)]at this;exact this
theorem rc {a b:Nat} (h:ofNat a=ofNat b):a%256=b%256:=by
 have:=congrArg UInt8.toNat h;rw[toNat_ofNat',toNat_ofNat']at this;exact this
theorem aGU:∀(L K:List (List UInt8)) (s t:List UInt8),L.length=K.length->(∀x∈L,x.length<=4096)->(∀x∈K,x.length<=4096)->jnR L++s=jnR K++t->L=K/\s=t
 |[],[],s,t,_,_,_,h=>⟨rfl,h⟩
 |[],_::_,_,_,h,_,_,_=>by simp at h
 |_::_,[],_,_,h,_,_,_=>by simp at h
 |x::r,y::q,s,t,hl,hx,hy,h=>by
  have hxl:=hx x (List.mem_cons_self ..);have hyl:=hy y (List.mem_cons_self ..);simp only[jnR,List.cons_append,nil_append,List.append_assoc,List.cons.injEq]at h;obtain⟨h1,h2,h3⟩:=h;have e1:=rc h1;have e2:=rc h2;have hlen:x.length=y.length:=by omega
  have hxy:x=y/\jnR r++s=jnR q++t:=List.append_inj h3 hlen;obtain⟨h4,h5⟩:=aGU r q s t (by simpa using hl) (λz hz=>hx z (List.mem_cons_of_mem _ hz)) (λz hz=>hy z (List.mem_cons_of_mem _ hz)) hxy.2;exact⟨by rw[hxy.1,h4],h5⟩
@[irreducible] def ql (x:Te):List UInt8:=jnB x.2++[ofInt x.1]
theorem xo (x:Te):ql x=jnB x.2++[ofInt x.1]:=by unfold ql;rfl
theorem aLA {a b:Int} (ha:1<=a/\a<=8) (hb:1<=b/\b<=8) (h:ofInt a=ofInt b):a=b:=by
 obtain⟨n,rfl⟩:∃n:Nat,a=n:=⟨a.toNat,by omega⟩;obtain⟨m,rfl⟩:∃m:Nat,b=m:=⟨b.toNat,by omega⟩;rw[fH,fH]at h;rw[re (by omega) (by omega) h]
theorem aLB {x y:Te} (hx:bP x.1 x.2) (hy:bP y.1 y.2) (h:ql x=ql y):x=y:=by
 rw[xo,xo,aGW,aGW,List.cons_append,List.cons_append,List.cons.injEq]at h;have h1:x.2.length=y.2.length:=re (by have:=hx.1.1;omega) (by have:=hy.1.1;omega) h.1;obtain⟨h2,h3⟩:=aGU _ _ _ _ h1 hx.1.2 hy.1.2 h.2;exact Prod.ext (aLA hx.2 hy.2 (by simpa using h3)) h2
def mpF:Nat->List Te->List (List UInt8×Int)
 |_,[]=>[]
 |i,x::r=>(ql x,((i+1:Nat):Int))::mpF (i+1) r
@[irreducible] def mpL (T:List Te):List (List UInt8×Int):=mpF 0 T
theorem aF2:∀(i:Nat) (T:List Te) (x:Te),mpF i (T++[x])=mpF i T++[(ql x,((i+T.length+1:Nat):Int))]
 |i,[],x=>rfl
 |i,y::r,x=>by
  show _::mpF (i+1) (r++[x])=_::(mpF (i+1) r++_);rw[aF2 (i+1) r x];simp only[length_cons];rw[show i+1+r.length+1=i+(r.length+1)+1 by omega]
theorem aQH (T:List Te) (x:Te):mpL (T++[x])=mpL T++[(ql x,((T.length+1:Nat):Int))]:=by
 unfold mpL;rw[aF2,zero_add]
theorem aQG:mpL []=[]:=by unfold mpL;rfl
theorem xR {x:Te} (hx:bP x.1 x.2):∀(i:Nat) (T:List Te),(∀y∈T,bP y.1 y.2)->gg (mpF i T) (ql x)=if fdT x T=0 then none else some ((i+fdT x T:Nat):Int)
 |i,[],_=>rfl
 |i,y::r,h=>by
  have ih:=xR hx (i+1) r (λz hz=>h z (List.mem_cons_of_mem _ hz));by_cases hxy:y=x
  .subst hxy
   simp only[mpF,gg,fdT,if_true];rfl
  have hk:ql x≠ql y:=λe=>hxy (aLB hx (h y (List.mem_cons_self ..)) e).symm;have h1:gg (mpF i (y::r)) (ql x)=gg (mpF (i+1) r) (ql x):=by
   show(if ql x=ql y then _ else _)=_;rw[if_neg hk]
  rw[h1,ih];cases hf:fdT x r with
  |zero=>
   have h2:fdT x (y::r)=0:=by unfold fdT;rw[if_neg hxy,hf]
   rw[h2,if_pos rfl,if_pos rfl]
  |succ j=>
   have h2:fdT x (y::r)=j+2:=by unfold fdT;rw[if_neg hxy,hf]
   rw[h2,if_neg (by omega),if_neg (by omega)];congr 1;omega
theorem zf {T:List Te} {x:Te} (hx:bP x.1 x.2) (h:∀y∈T,bP y.1 y.2) (hf:fdT x T=0):gg (mpL T) (ql x)=none:=by
 unfold mpL;rw[xR hx 0 T h,if_pos hf]
theorem ze {T:List Te} {x:Te} {i:Nat} (hx:bP x.1 x.2) (h:∀y∈T,bP y.1 y.2) (hf:fdT x T=i+1):gg (mpL T) (ql x)=some ((i+1:Nat):Int):=by
 unfold mpL;rw[xR hx 0 T h,hf,if_neg (by omega),zero_add]
theorem uu {T:List Te} {x:Te} (h:∀y∈T,bP y.1 y.2):∀y∈(mkT T x).1,bP y.1 y.2:=by
 by_cases hV:bP x.1 x.2
 .cases hf:fdT x T with
  |zero=>
   rw[kE hV hf];intro y hy;rcases List.mem_append.1 hy with hy|hy
   .exact h y hy
   obtain rfl:y=x:=by simpa using hy
   exact hV
  |succ i=>rw[mf hV hf];exact h
 rw[rm hV];exact h
theorem aGA (T:List Te) (x:Te):T.length<=(mkT T x).1.length/\(mkT T x).1.length<=T.length+1:=by
 by_cases hV:bP x.1 x.2
 .cases hf:fdT x T with
  |zero=>rw[kE hV hf];simp
  |succ i=>rw[mf hV hf];simp
 rw[rm hV];simp
def nwF (q:Nat) (L:List (List UInt8)) (j:Nat):List (Nat×SV):=[(1,.isl 0 (inL (L.getD j []) q 0).length 1 [((inL (L.getD j []) q 0).length*1,.ai (toI (inL (L.getD j []) q 0)))])]
def nmS (q:Nat) (L:List (List UInt8)):SV:=.isl 0 L.length 1 [(L.length*1,.arr L.length 1 (nwF q L))]
def ttF (T:List Te) (q:Nat):List (Nat×SV):=[(1,.i .i64 (T.getD q te0).1),(1,prS (T.getD q te0).2),(1,nmS q (T.getD q te0).2)]
def MT (n c:Nat) (T:List Te) (a m:Nat) (L:List (List UInt8)):Mm:=[(1000,.mem true 0 [(1,.sl a 0 0 n c),(1,.mp 1002)]),(a,.mem true (zmE (c-n) 3) [(n*3,.arr n 3 (ttF T))]),(1002,.map (.si (mpL T))),(1003,.mem false 0 (rwS m L))]
theorem aST {T:List Te} {x:Te} {q:Nat} (h:q<T.length):ttF (T++[x]) q=ttF T q:=by
 unfold ttF;rw[xz te0 h]
theorem aSU (T:List Te) (x:Te):ttF (T++[x]) T.length=[(1,.i .i64 x.1),(1,prS x.2),(1,nmS T.length x.2)]:=by
 unfold ttF;rw[x5]
theorem abT (T:List Te) (n c:Nat) (hT:T.length=n) (hn:n<=60000) (hnc:n<=c) (hTv:∀x∈T,bP x.1 x.2) (k:Int) (L:List (List UInt8)) (m:Nat) (hL:L.length=m) (hm1:m<=1000000) (hLs:∀x∈L,x.length<=1000000):
  Sx.Fn Γ.P 31 [.ptr 1000 0 none,.i .i64 k,.slx 1003 0 0 m] (MT n c T 1001 m L)
  (λv M=>∃n' c',(mkT T (k,L)).1.length=n'/\n'<=c'/\v= .tup [.a8 (kyB (mkT T (k,L)).2),.bool ((mkT T (k,L)).2≠0)]/\M=(1001,.dead)::MT n' c' (mkT T (k,L)).1 1005 m L):=by
 have hJ:=aZ8 L m hL hm1 hLs;have hky:=xo (k,L);unfold rwS rwF at hJ;unfold MT rwS rwF;refine aG (Γ:=Γ) (fn:=Tryz.f31) rfl rfl rfl rfl ?_;refine gB ?_;refine Call.i hJ [(1003,(1003,0,none)),(1001,(300,0,none))] rfl fc rfl fc rfl ?_;rintro v M' (⟨hnj,rfl,rfl⟩|⟨c1,N1,hj,hjl,hjc,rfl,rfl⟩)
 .have hmk:mkT T (k,L)=(T,0):=rm λh=>hnj h.1
  refine gN ?_;refine gB ?_;refine Ret.i (.tup [.a8 (replicate 32 0),.bool ((mkT T (k,L)).2≠0)]) [(1001,.dead),(1000,.mem true 0 [(1,.sl 1005 0 0 n c),(1,.mp 1002)]),(1005,.mem true (zmE (c-n) 3) [(n*3,.arr n 3 (ttF T))]),(1002,.map (.si (mpL T))),(1003,.mem false 0 [(m*1,.arr m 1 (rwF L))])] [(1005,(1001,0,none))] rfl fc ⟨n,c,by rw[hmk];exact hT,hnc,by rw[hmk];rfl,by rw[hmk];rfl⟩ rfl fc rfl fc rfl
 refine gN ?_;refine gB ?_;refine zB.i ?_ ?_<;>intro h1
 .have h1:k<1:=h1
  have hmk:mkT T (k,L)=(T,0):=rm λh=>by have:=h.2.1;simp only at this;omega
  refine gB ?_;refine Ret.i (.tup [.a8 (replicate 32 0),.bool ((mkT T (k,L)).2≠0)]) [(1001,.dead),(1000,.mem true 0 [(1,.sl 1005 0 0 n c),(1,.mp 1002)]),(1005,.mem true (zmE (c-n) 3) [(n*3,.arr n 3 (ttF T))]),(1002,.map (.si (mpL T))),(1003,.mem false 0 [(m*1,.arr m 1 (rwF L))])] [(1005,(1001,0,none))] rfl fc ⟨n,c,by rw[hmk];exact hT,hnc,by rw[hmk];rfl,by rw[hmk];rfl⟩ rfl fc rfl fc rfl
 have h1:¬k<1:=h1;refine zB.i ?_ ?_<;>intro h2
 .have h2:k>8:=h2
  have hmk:mkT T (k,L)=(T,0):=rm λh=>by have:=h.2.2;simp only at this;omega
  refine gB ?_;refine Ret.i (.tup [.a8 (replicate 32 0),.bool ((mkT T (k,L)).2≠0)]) [(1001,.dead),(1000,.mem true 0 [(1,.sl 1005 0 0 n c),(1,.mp 1002)]),(1005,.mem true (zmE (c-n) 3) [(n*3,.arr n 3 (ttF T))]),(1002,.map (.si (mpL T))),(1003,.mem false 0 [(m*1,.arr m 1 (rwF L))])] [(1005,(1001,0,none))] rfl fc ⟨n,c,by rw[hmk];exact hT,hnc,by rw[hmk];rfl,by rw[hmk];rfl⟩ rfl fc rfl fc rfl
 have h2:¬k>8:=h2;have hV:bP k L:=⟨hj,by omega,by omega⟩;have hjle:=aT9 hj.2;have hj64:=hj.1;have hky2:ql (k,L)=jnB L++[ofInt k]:=hky;have hkl:(ql (k,L)).length=N1+1:=by rw[hky,zlA,hjl];rfl
 refine gB ?_;refineλc2 hc2=>?_;have hc2:N1+1<=c2:=hc2;refine gB ?_;refine aH.i [[],[0],[0,1],[0,1,2],[],[4],r_6,r_7,r_8,r_8,r_9,fe] kX (by kernel_rfl) ?_;refine gB ?_;have hq:take (N1+1) (drop 0 (kR (addI none 0) (jnB L)++take 1 (drop 0 (ofInt k::replicate 0 0))))=ql (k,L):=by
  rw[hky,bq];exact take_of_length_le (by rw[<-hkl,hky];exact le_refl _)
 refine zB.i ?_ ?_<;>intro hs
 .have hs:(gg (mpL T) (take (N1+1) (drop 0 (kR (addI none 0) (jnB L)++take 1 (drop 0 (ofInt k::replicate 0 0)))))).isSome=true:=hs
  rw[hq]at hs;obtain⟨i,hi⟩:∃i,fdT (k,L) T=i+1:=by
   cases hf:fdT (k,L) T with
   |zero=>rw[zf hV hTv hf]at hs;cases hs
   |succ i=>exact⟨i,rfl⟩
  have hmk:mkT T (k,L)=(T,i+1):=mf hV hi;have hg:=ze hV hTv hi;have hil:=aHP (k,L) T;have hN:=abF (i+1) (by omega);have hnl:=bc (i+1);refine gB ?_;refine Call.i hN [] rfl ?_ rfl trivial rfl ?_
  .show((i+1:Nat):Int)=(gg (mpL T) (take (N1+1) (drop 0 (kR (addI none 0) (jnB L)++take 1 (drop 0 (ofInt k::replicate 0 0)))))).getD 0
   rw[hq,hg];rfl
  rintro _ _ ⟨rfl,rfl⟩;refine gN ?_;refine gB ?_;refine Ret.i (.tup [.a8 (kC (i+1)),.bool ((mkT T (k,L)).2≠0)]) [(1001,.dead),(1000,.mem true 0 [(1,.sl 1005 0 0 n c),(1,.mp 1002)]),(1005,.mem true (zmE (c-n) 3) [(n*3,.arr n 3 (ttF T))]),(1002,.map (.si (mpL T))),(1003,.mem false 0 [(m*1,.arr m 1 (rwF L))])] [(1005,(1001,0,none))] rfl fc ⟨n,c,by rw[hmk];exact hT,hnc,by rw[hmk];rfl,by rw[hmk];rfl⟩ rfl fc rfl fc rfl
 have hs:¬(gg (mpL T) (take (N1+1) (drop 0 (kR (addI none 0) (jnB L)++take 1 (drop 0 (ofInt k::replicate 0 0)))))).isSome=true:=hs;rw[hq]at hs;have hi:fdT (k,L) T=0:=by
  cases hf:fdT (k,L) T with
  |zero=>rfl
  |succ i=>rw[ze hV hTv hf]at hs;exact absurd rfl hs
 have hg:=zf hV hTv hi;have hmk:mkT T (k,L)=(T++[(k,L)],n+1):=by
  rw[kE hV hi,hT]
 refine gB ?_;refine zB.i (λh=>absurd h (by omega)) (λ_=>?_);refine gB ?_
 refine aY.i (σ:=Nat×Nat×Nat) (λs=>s.1<=m/\s.1<=s.2.1/\s.1<=s.2.2)
  (λs=>([(0,.ptr 1000 0 none),(6,.ptr 6 0 none),(8,.sl 208 0 0 (N1+1) c2),(12,.ptr 12 0 none),(58,.slx 1003 0 0 m),(59,.i .i64 (m:Int)),(60,.i .i64 (s.1:Int))],[(1000,.mem true 0 [(1,.sl 1001 0 0 n c),(1,.mp 1002)]),(1001,.mem true (zmE (c-n) 3) [(n*3,.arr n 3 (ttF T))]),(1002,.map (.si (mpL T))),(1003,.mem false 0 [(m*1,.arr m 1 (rwF L))]),(6,.mem true 0 [(32,.a8 (replicate 32 0))]),
   (208,.mem true (c2-(N1+1)) [(N1+1,.a8 (ql (k,L)))]),(12,.mem true 0 [(1,.i .i64 k),(1,.sl 206 0 0 s.1 s.2.1),(1,.sl 207 0 0 s.1 s.2.2)]),(206,.mem true (s.2.1-s.1) [(s.1*1,.arr s.1 1 (rwF L))]),(207,.mem true (s.2.2-s.1) [(s.1*1,.arr s.1 1 (nwF n L))])]))
  (λs=>m-s.1) (0,0,0) ⟨zero_le _,le_refl _,le_refl _⟩ ?_ ?_
 .refine Le.ghost [.own 206 [(0,.arr 0 1 (rwF L))],.own 207 [(0,.arr 0 1 (nwF n L))],.leaf 12 1 206,.leaf 12 2 207] [] [(208,(35,0,none))] rfl ⟨⟨rfl,rfl,trivial⟩,⟨rfl,rfl,trivial⟩⟩ rfl rfl ?_ rfl ?_ rfl
  .exact fc
  repeat' first|exact trivial|refine zA.app ?_ ?_|refine zA.zd ?_ ?_|refine zA.cons ?_ ?_|exact fc|fail
  all_goals(rw[hky];exact rfl)
 rintro⟨i2,ca,cb⟩ ⟨hi2,hca,hcb⟩;have hi2:i2<=m:=hi2;have hca:i2<=ca:=hca;have hcb:i2<=cb:=hcb;refine gB ?_;refine zB.i ?_ ?_<;>intro hc
 .have hc:(i2:Int)<m:=hc
  have hll:=hLs _ (fq [] (L:=L) (i:=i2) (by omega));refine gC ?_;refine aH.i [[],[0],[],[],[2,3],[2,3,4],r_6,r_7,r_8] r_9 (by kernel_rfl) ?_;refine gC ?_;refineλc3 hc3=>?_;refine gC ?_;refine cL.i [(68,.mem true (c3-(0+(L.getD i2 []).length)) [(0+(L.getD i2 []).length,.a8 ([]++(L.getD i2 []).take (L.getD i2 []).length))]),(66,.dead)] rfl rfl ?_;refine gC ?_;refineλc4 hc4=>?_;refine gC ?_;have hI:=ru (L.getD i2 []) (L.getD i2 []).length rfl n (by omega) hll;refine aH.i [[],[0],[],[],[3],[3,4],[3,4,5],[3,4,5,6],[2,3,4,5,6,7],[2,3,4,5,6,7,8],ek,fe,kX] jO (by kernel_rfl) ?_;refine gC ?_;refine Call.name [(2001,[]),(0,[])] rfl trivial (kW.i hI [(1003,(2001,0,none)),(1001,(301,0,none))] rfl fcn rfl fcn rfl ?_);rintro v M' ⟨l,cl,rfl,hlc,rfl,rfl⟩;refine gN ?_;have htl:=aEB (inL (L.getD i2 []) n 0);refine cL.i [(301,.mem true (cl-(toI (inL (L.getD i2 []) n 0)).length) [((toI (inL (L.getD i2 []) n 0)).length,.ai (toI (inL (L.getD i2 []) n 0)))]),(2001,.mem false 1 [((L.getD i2 []).length*1,.a8 (L.getD i2 []))])] rfl rfl ?_;refine gC ?_;refineλc5 hc5=>?_;refine gC ?_;have hc4:i2+1<=c4:=hc4;have hc5:i2+1<=c5:=hc5;refine⟨(i2+1,c4,c5),⟨by show i2+1<=m;omega,hc4,hc5⟩,by show m-(i2+1)<m-i2;omega,Le.i [(206,(70,0,none)),(207,(82,0,none))] rfl ?_ rfl ?_ rfl⟩
  .exact fcn
  repeat' first|exact trivial|refine zA.app ?_ ?_|refine zA.zd ?_ ?_|refine zA.cons ?_ ?_|exact fcn|fail
  .refine oK (λq _=>by rw[ke,zero_add]) ?_
   simp only[zme,bq,drop_zero,Ix.val,zQ,zero_add,zIn,nil_append,take_length,mul_one,rwF]
  refine oK (λq _=>by rw[ke,zero_add]) ?_;simp only[zme,bq,drop_zero,Ix.val,zQ,zero_add,zIn,nil_append,take_length,mul_one,nwF,aEB];exact rfl
 have hc:¬(i2:Int)<m:=hc;obtain rfl:i2=m:=by omega
 refine gC ?_;refine aH.i [[],[],[1],[1,2],[1,2,3],[],[5],[1,2,3,4,5,6],r_8,r_9,ek] fe (by kernel_rfl) ?_;refine gC ?_;refineλc6 hc6=>?_;refine gC ?_;have hc6:n+1<=c6:=hc6;have hq2:take (N1+1) (drop 0 (ql (k,L)))=ql (k,L):=take_of_length_le (by rw[<-hkl];exact le_refl _);refine aH.i [[],[0],[0,1],[0,1,2],[],[4],[],[6],[6,7],[6,7,8],[6,7,8,9],fe] kX (by kernel_rfl) ?_
 repeat(refine fg.i (by repeat' (first|(show zA _;first|exact trivial|refine zA.app ?_ ?_|refine zA.zd ?_ ?_|refine zA.cons ?_ ?_)|with_reducible rfl|with_reducible assumption|omega |(simp only[hq2,hg,rng,Ix.val,zQ,addI,szs]<;>omega)|(simp only[hq2,hg,rng,Ix.val,zIn,zme,zQ,addI,Option.getD_none,Option.getD_some,zlT,zlD,zlA,List.length_set,List.length_replicate,szs, *]<;>omega)|(simp only[Ix.val];with_reducible assumption)|exact UInt8.toNat_lt _|(apply Eq.trans;(with_reducible assumption);exact rfl)|exact rfl|exactλ_ _=>rfl)) ?_)
 have hN:=abF (n+1) (by omega);have hnl:=bc (n+1);refine Call.i hN [] rfl fc rfl trivial rfl ?_;rintro _ _ ⟨rfl,rfl⟩;refine gN ?_;refine gB ?_;have happ:=aQH T (k,L);rw[hT]at happ;refine Ret.i (.tup [.a8 (kC (n+1)),.bool ((mkT T (k,L)).2≠0)]) [(1001,.dead),(1000,.mem true 0 [(1,.sl 1005 0 0 (n+1) c6),(1,.mp 1002)]),(1005,.mem true (zmE (c6-(n+1)) 3) [((n+1)*3,.arr (n+1) 3 (ttF (T++[(k,L)])))]),(1002,.map (.si (mpL (T++[(k,L)])))),(1003,.mem false 0 [(i2*1,.arr i2 1 (rwF L))])] [(1005,(92,0,none))] rfl ?_ ⟨n+1,c6,by rw[hmk];simp[hT],hc6,by rw[hmk];rfl,by rw[hmk];rfl⟩ rfl ?_ rfl ?_ rfl
 .exact fc
 .exact fc
 repeat' first|exact trivial|refine zA.app ?_ ?_|refine zA.zd ?_ ?_|refine zA.cons ?_ ?_|exact fc|fail
 .refine oK (λq hq=>aST (by omega)) ?_
  subst hT;subst hL;exact aSU T (k,L)
 rw[hq2];exact happ
theorem aTY {T:List Te} {x:Te} (h:bP x.1 x.2):(mkT T x).2≠0:=by
 cases hf:fdT x T with
 |zero=>rw[kE h hf];simp
 |succ i=>rw[mf h hf];simp
def tbM (N c:Nat) (T:List Te) (a:Nat):Mm:=[(1000,.mem true 0 [(1,.sl a 0 0 N c),(1,.mp 1002)]),(a,.mem true (zmE (c-N) 3) [(N*3,.arr N 3 (ttF T))]),(1002,.map (.si (mpL T)))]
def rbM (N c:Nat) (T:List Te) (a:Nat):Mm:=[(1000,.mem true 0 [(1,.sl a 0 0 N c)]),(a,.mem true (zmE (c-N) 2) [(N*2,.arr N 2 (rtF T))])]
theorem ib:∀x∈([]:List Te),bP x.1 x.2:=λ_ h=>by cases h
theorem aUO:Sx.Fn Γ.P 38 [] [] (λv M=>v= .ptr 1000 0 none/\M=[(1000,.mem true 0 [(1,.nsl),(1,.mp 1002)]),(1002,.map (.si []))]):=by
 refine aG (Γ:=Γ) (fn:=Tryz.f38) rfl rfl rfl rfl ?_;refine gB ?_;refine Ret.i (.ptr 1000 0 none) [(1000,.mem true 0 [(1,.nsl),(1,.mp 1002)]),(1002,.map (.si []))] [(1000,(3,0,none)),(1002,(1,0,none))] rfl fc ⟨rfl,rfl⟩ rfl fc rfl fc rfl
theorem ab0:Sx.Fn Γ.P 17 [] [] (λv M=>v= .agg [(1,.ptr 1000 0 none)]/\M=[(1000,.mem true 0 [(1,.nsl),(1,.mp 1002)]),(1002,.map (.si []))]):=by
 refine aG (Γ:=Γ) (fn:=Tryz.f17) rfl rfl rfl rfl ?_;refine gB ?_;refine Call.i aUO [(1000,(300,0,none)),(1002,(302,0,none))] rfl fc rfl trivial rfl ?_;rintro _ _ ⟨rfl,rfl⟩;refine gN ?_;refine gB ?_;refine Ret.i (.agg [(1,.ptr 1000 0 none)]) [(1000,.mem true 0 [(1,.nsl),(1,.mp 1002)]),(1002,.map (.si []))] [(1000,(300,0,none)),(1002,(302,0,none))] rfl fc ⟨rfl,rfl⟩ rfl fc rfl fc rfl
theorem abZ:Sx.Fn Γ.P 18 [] [] (λv M=>v= .agg [(1,.nilp)]/\M=[]):=by
 refine aG (Γ:=Γ) (fn:=Tryz.f18) rfl rfl rfl rfl ?_;refine gB ?_;refine Ret.i (.agg [(1,.nilp)]) [] [] rfl fc ⟨rfl,rfl⟩ rfl fc rfl fc rfl
theorem aaL:Sx.Fn Γ.P 19 [] [] (λv M=>v= .agg [(1,.ptr 1000 0 none)]/\M=[(1000,.mem true 0 [(1,.nsl)])]):=by
 refine aG (Γ:=Γ) (fn:=Tryz.f19) rfl rfl rfl rfl ?_;refine gB ?_;refine Ret.i (.agg [(1,.ptr 1000 0 none)]) [(1000,.mem true 0 [(1,.nsl)])] [(1000,(2,0,none))] rfl fc ⟨rfl,rfl⟩ rfl fc rfl fc rfl
theorem tO:Sx.Fn Γ.P 5 [.tt] [] (λv M=>v= .agg [(1,.ptr 1000 0 none)]/\M=tbM 0 0 [] 1001):=by
 refine aG (Γ:=Γ) (fn:=Tryz.f5) rfl rfl rfl rfl ?_;refine gB ?_;refine Call.i ab0 [(1000,(300,0,none)),(1002,(302,0,none))] rfl fc rfl trivial rfl ?_;rintro _ _ ⟨rfl,rfl⟩;refine gN ?_;refine gB ?_;refine Ret.ghost [.own 401 [(0,.arr 0 3 (ttF []))],.leaf 300 0 401] [] rfl ⟨rfl,rfl,trivial⟩ rfl (.agg [(1,.ptr 1000 0 none)]) (tbM 0 0 [] 1001) [(1000,(300,0,none)),(1001,(401,0,none)),(1002,(302,0,none))] rfl ?_ ⟨rfl,rfl⟩ rfl ?_ rfl ?_ rfl
 .exact fc
 .exact fc
 repeat' first|exact trivial|refine zA.app ?_ ?_|refine zA.zd ?_ ?_|refine zA.cons ?_ ?_|exact fc|fail
 all_goals exact aQG
theorem tN:Sx.Fn Γ.P 5 [.ff] [] (λv M=>v= .agg [(1,.nilp)]/\M=[]):=by
 refine aG (Γ:=Γ) (fn:=Tryz.f5) rfl rfl rfl rfl ?_;refine gB ?_;refine Call.i abZ [] rfl fc rfl trivial rfl ?_;rintro _ _ ⟨rfl,rfl⟩;refine gN ?_;refine gB ?_;refine Ret.i (.agg [(1,.nilp)]) [] [] rfl fc ⟨rfl,rfl⟩ rfl fc rfl fc rfl
theorem aN5:Sx.Fn Γ.P 6 [.tt] [] (λv M=>v= .agg [(1,.ptr 1000 0 none)]/\M=rbM 0 0 [] 1001):=by
 refine aG (Γ:=Γ) (fn:=Tryz.f6) rfl rfl rfl rfl ?_;refine gB ?_;refine Call.i aaL [(1000,(300,0,none))] rfl fc rfl trivial rfl ?_;rintro _ _ ⟨rfl,rfl⟩;refine gN ?_;refine gB ?_;refine Ret.ghost [.own 401 [(0,.arr 0 2 (rtF []))],.leaf 300 0 401] [] rfl ⟨rfl,rfl,trivial⟩ rfl (.agg [(1,.ptr 1000 0 none)]) (rbM 0 0 [] 1001) [(1000,(300,0,none)),(1001,(401,0,none))] rfl fc ⟨rfl,rfl⟩ rfl fc rfl fc rfl
theorem aN4:Sx.Fn Γ.P 6 [.ff] [] (λv M=>v= .agg [(1,.nilp)]/\M=[]):=by
 refine aG (Γ:=Γ) (fn:=Tryz.f6) rfl rfl rfl rfl ?_;refine gB ?_;refine Ret.i (.agg [(1,.nilp)]) [] [] rfl fc ⟨rfl,rfl⟩ rfl fc rfl fc rfl
end Go.Proofs.YtaehfiohjkiajaaGreat
