/- Walks. -/
import Derived.Test.YtieblfbmmbkjdaaGreatHwCv4ToScR4
import Derived.Test.YtieblfbmmbkjdaaGreatHwSha4ToSs2
import Derived.Test.YtieblfbmmbkjdaaGreatHwSs3ToCv3
import Derived.Test.YtieblfbmmbkjdaaGreatHx8
import Derived.Test.YtieblfbmmbkjdaaGreatHwFe4ToAes5
set_option linter.unusedSimpArgs false
set_option linter.unusedVariables false
set_option maxHeartbeats 4000000
open List (replicate take take_of_length_le drop drop_zero getD_eq_getElem?_getD length_set append_nil)
open UInt8 (ofNat)
open UInt64 (toNat_ofNat' toNat_add)
open Nat (mod_eq_of_lt add_mul le_refl pow_mul pow_add mul_comm mul_assoc zero_mul mod_lt pow_succ' zero_le add_mod mul_add)
open Option (getD_none)
set_option maxRecDepth 100000
namespace Go.Proofs.YtieblfbmmbkjdaaGreat
open Go Go.Sx
theorem aTF {a b n:Nat} (hb:b<2^n):a*2^n|||b=a*2^n+b:=by
 rw[mul_comm];exact(Nat.two_pow_add_eq_or_of_lt hb a).symm
theorem aEN (x y:UInt64) (hy:y.toNat<2):(aQ x 1|||y).toNat=(2*x.toNat)%18446744073709551616+y.toNat:=by
 unfold aQ
 rw[UInt64.toNat_or,toNat_ofNat',Nat.shiftLeft_eq]
 have e:x.toNat*2^1%2^64=x.toNat%9223372036854775808*2^1:=by omega
 rw[e,aTF (by omega)]
 omega
theorem aM5 (x:UInt64):(aF x 63).toNat=2*x.toNat/18446744073709551616:=by
 have:=x.toNat_lt
 unfold aF
 rw[toNat_ofNat',Nat.shiftRight_eq_div_pow,mod_eq_of_lt (by omega)]
 omega
theorem aEK (x:UInt64):(aF x 63).toNat<2:=by
 have:=x.toNat_lt
 rw[aM5];omega
theorem wv4 (l:List UInt64):wv l 4=wd_ l 0+wd_ l 1*18446744073709551616+wd_ l 2*18446744073709551616^2+wd_ l 3*18446744073709551616^3:=by
 show 0+_+_+_+_=_
 rw[Nat.pow_zero,Nat.pow_one,Nat.mul_one,Nat.zero_add]
theorem aPE (r:List UInt64) (x:UInt64) (hx:x.toNat<2) (hr:wv r 4<Ln):wv (shW r x) 4=2*wv r 4+x.toNat:=by
 have e0:wd_ (shW r x) 0=(aQ (r.getD 0 0) 1|||x).toNat:=rfl
 have e1:wd_ (shW r x) 1=(aQ (r.getD 1 0) 1|||aF (r.getD 0 0) 63).toNat:=rfl
 have e2:wd_ (shW r x) 2=(aQ (r.getD 2 0) 1|||aF (r.getD 1 0) 63).toNat:=rfl
 have e3:wd_ (shW r x) 3=(aQ (r.getD 3 0) 1|||aF (r.getD 2 0) 63).toNat:=rfl
 rw[aEN _ _ hx]at e0
 rw[aEN _ _ (aEK _),aM5]at e1 e2 e3
 rw[wv4]at hr⊢
 rw[wv4,e0,e1,e2,e3]
 unfold wd_ at *
 have h0:=(r.getD 0 0).toNat_lt
 have h1:=(r.getD 1 0).toNat_lt
 have h2:=(r.getD 2 0).toNat_lt
 have h3:=(r.getD 3 0).toNat_lt
 generalize (r.getD 0 0).toNat=a0 at *
 generalize (r.getD 1 0).toNat=a1 at *
 generalize (r.getD 2 0).toNat=a2 at *
 generalize (r.getD 3 0).toNat=a3 at *
 generalize x.toNat=y at *
 have hL:Ln<9223372036854775808*18446744073709551616^3:=by decide
 have h4:2*a3<18446744073709551616:=by
  have:a3*18446744073709551616^3<9223372036854775808*18446744073709551616^3:=by omega
  have:=Nat.lt_of_mul_lt_mul_right this
  omega
 rw[show(18446744073709551616:Nat)^2=340282366920938463463374607431768211456 by decide,show(18446744073709551616:Nat)^3=6277101735386680763835789423207666416102355444464034512896 by decide]
 omega
theorem aPA (r:List UInt64) (x:UInt64) (hx:x.toNat<2) (hr:wv r 4<Ln):wv (stW r x) 4=(2*wv r 4+x.toNat)%Ln:=by
 have hs:=aPE r x hx hr
 unfold stW
 have hL:0<Ln:=by decide
 have hl:(shW r x).length=4:=rfl
 split
 ·rename_i h
  rw[tI hl]at h
  rw[hs]at h⊢
  rw[mod_eq_of_lt h]
 rename_i h
 have h':¬wv (shW r x) 4<Ln:=λh1=>h ((tI hl).2 h1)
 rw[aQX hl h',hs]
 rw[hs]at h'
 rw[Nat.mod_eq_sub_mod (by omega),mod_eq_of_lt (by omega)]
theorem aAU (b:List UInt8) (i:Nat):(vq b i).toNat=by_ b (i/8)/2^(i%8)%2:=by
 unfold vq aF by_
 have h:=(b.getD (i/8) 0).toNat_lt
 rw[UInt64.toNat_and,toNat_ofNat',Nat.shiftRight_eq_div_pow,show(1:UInt64).toNat=1 from rfl,Nat.and_one_is_mod]
 rw[UInt8.toNat_toUInt64]
 rw[mod_eq_of_lt (Nat.lt_of_le_of_lt (Nat.div_le_self _ _) (by omega))]
theorem aMR (b:List UInt8) (i:Nat):(vq b i).toNat<2:=by rw[aAU];omega
theorem aIU (b:List UInt8) {n i:Nat} (h:i<8*n):(vq b i).toNat=bv b n/2^i%2:=by
 rw[aAU,<-ta b (n:=n) (q:=i/8) (by omega)]
 have e:(256:Nat)^(i/8)=2^(8*(i/8)):=by rw[pow_mul]
 rw[e]
 have e2:(2:Nat)^i=2^(8*(i/8))*2^(i%8):=by rw[<-pow_add];congr 1;omega
 rw[e2,<-Nat.div_div_eq_div_mul]
 generalize bv b n/2^(8*(i/8))=W
 have h8:i%8<8:=mod_lt _ (by decide)
 have e3:(256:Nat)=2^(i%8)*(2*2^(7-i%8)):=by
  rw[<-pow_succ',<-pow_add,show i%8+(7-i%8+1)=8 by omega]
 rw[e3,Nat.mod_mul_right_div_self,Nat.mod_mul_right_mod]
theorem aGD (b:List UInt8) (n:Nat):∀k,k<=8*n->wv (mdL (am b n k)) 4=bv b n/2^(8*n-k)%Ln
 |0,_=>by
  have:bv b n/2^(8*n)=0:=by
   have h:=aZC b n
   rw[show(256:Nat)^n=2^(8*n) by rw[pow_mul]]at h
   exact Nat.div_eq_of_lt h
  rw[Nat.sub_zero,this]
  show wv (replicate 4 0) 4=0%Ln
  decide
 |k+1,h=>by
  have ih:=aGD b n k (by omega)
  have hlt:wv (mdL (am b n k)) 4<Ln:=by rw[ih];exact mod_lt _ (by decide)
  simp only[am]
  rw[tG,aPA _ _ (aMR _ _) hlt,ih,aIU b (n:=n) (by omega)]
  have e:(2:Nat)^(8*n-k)=2^(8*n-(k+1))*2:=by rw[<-Nat.pow_succ];congr 1;omega
  rw[e,<-Nat.div_div_eq_div_mul,show 8*n-1-k=8*n-(k+1) by omega]
  generalize bv b n/2^(8*n-(k+1))=W
  rw[add_mod,Nat.mul_mod,Nat.mod_mod,<-Nat.mul_mod,<-add_mod,Nat.div_add_mod]
theorem mg (b:List UInt8) (n:Nat):wv (mdL (am b n (8*n))) 4=bv b n%Ln:=by
 rw[aGD b n _ (le_refl _),Nat.sub_self,Nat.pow_zero,Nat.div_one]
theorem zN (a:List UInt64):∀i j,j<i->i<=32->(xN a i).getD j 0=(aF (a.getD (j/8) 0) (j%8*8)).toUInt8
 |0,_,h,_=>absurd h (Nat.not_lt_zero _)
 |i+1,j,h,hi=>by
  simp only[xN]
  by_cases e:j=i
  ·subst e;rw[aE (by rw[iD];omega)]
  rw[aA (by omega),zN a i j (by omega) (by omega)]
theorem aFL (a:List UInt64) {j:Nat} (hj:j<32):by_ (xN a 32) j=wv a 4/256^j%256:=by
 unfold by_
 rw[zN a 32 j hj (le_refl _)]
 unfold aF
 rw[UInt64.toNat_toUInt8,toNat_ofNat',Nat.shiftRight_eq_div_pow]
 have h1:=ya a (n:=4) (q:=j/8) (by omega)
 unfold wd_ at h1
 rw[<-h1]
 have e:(256:Nat)^j=18446744073709551616^(j/8)*2^(j%8*8):=by
  rw[show(18446744073709551616:Nat)=256^8 by decide,show(2:Nat)^(j%8*8)=256^(j%8) by rw[mul_comm,pow_mul],<-pow_mul,<-pow_add]
  congr 1;omega
 rw[e,<-Nat.div_div_eq_div_mul]
 generalize wv a 4/18446744073709551616^(j/8)=W
 have e3:(18446744073709551616:Nat)=2^(j%8*8)*(256*256^(7-j%8)):=by
  rw[show(2:Nat)^(j%8*8)=256^(j%8) by rw[mul_comm,pow_mul],<-pow_succ',<-pow_add,show j%8+(7-j%8+1)=8 by omega]
 have h64:W%18446744073709551616/2^(j%8*8)<18446744073709551616:=Nat.lt_of_le_of_lt (Nat.div_le_self _ _) (mod_lt _ (by decide))
 rw[mod_eq_of_lt (a:=W%18446744073709551616/2^(j%8*8)) h64]
 rw[e3,Nat.mod_mul_right_div_self,Nat.mod_mul_right_mod]
end Go.Proofs.YtieblfbmmbkjdaaGreat
namespace Go.Proofs.YtieblfbmmbkjdaaGreat
open Go Go.Sx
@[irreducible] def aQM (a b c:List UInt8):List UInt8:=byS (moS (mrS (dgS a 32) (dgS b 32) (dgS c 32) 16) 33 33) 16
@[irreducible] def sf (b:List UInt8):List UInt8:=byS (moS (dgS b b.length) ((b.length+1)/2) ((b.length+1)/2)) 16
theorem sh (a b c:List UInt8):aQM a b c=byS (moS (mrS (dgS a 32) (dgS b 32) (dgS c 32) 16) 33 33) 16:=by unfold aQM;rfl
theorem xJ (b:List UInt8):sf b=byS (moS (dgS b b.length) ((b.length+1)/2) ((b.length+1)/2)) 16:=by unfold sf;rfl
theorem fQ (b:List UInt8):(sf b).length=32:=by rw[xJ];exact byS_length _ _
theorem dN (a b c:List UInt8):(aQM a b c).length=32:=by rw[sh];exact byS_length _ _
end Go.Proofs.YtieblfbmmbkjdaaGreat
namespace Go.Proofs.YtieblfbmmbkjdaaGreat
open Go Go.Sx
theorem aPV (i:Nat):((65536:Nat)^i)=256^(2*i):=by rw[pow_mul]
theorem aVB {l:List Int} {x:Int}:∀{n:Nat},n<=l.length->dv (l++[x]) n=dv l n:=λ{n} h=>
 fr λi hi=>by rw[getD_eq_getElem?_getD,List.getElem?_append_left (by omega),<-getD_eq_getElem?_getD]
theorem jA (b:List UInt8):∀n,dv (dgS b n) ((n+1)/2)=((bv b n:Nat):Int)
 |0=>rfl
 |i+1=>by
  have ih:=jA b i
  have hl:=bV b i
  have hb:bv b (i+1)=bv b i+(b.getD i 0).toNat*256^i:=rfl
  rw[hb]
  simp only[dgS]
  split
  ·rename_i he
   rw[show(i+1+1)/2=i/2+1 by omega]
   rw[show(i+1)/2=i/2 by omega]at ih hl
   have hp:(256:Nat)^i=65536^(i/2):=by rw[aPV];congr 1;omega
   rw[hp]
   simp only[dv]
   rw[aVB (by omega),ih,getD_eq_getElem?_getD,List.getElem?_append_right (by omega),show i/2-(dgS b i).length=0 by omega]
   simp only[List.getElem?_cons_zero,Option.getD_some]
   rw[Int.natCast_add,Int.natCast_mul,Int.natCast_pow]
   rfl
  rename_i he
  rw[show(i+1+1)/2=i/2+1 by omega]
  rw[show(i+1)/2=i/2+1 by omega]at ih hl
  have hp:(256:Nat)^i=256*65536^(i/2):=by rw[aPV,<-pow_succ'];congr 1;omega
  rw[hp,ar (by omega)]
  rw[Int.natCast_add,Int.natCast_mul,Int.natCast_mul,Int.natCast_pow,show((65536:Nat):Int)=65536 from rfl,show((256:Nat):Int)=256 from rfl]
  rw[<-ih]
  simp only[dv]
  generalize (65536:Int)^(i/2)=p
  rw[Int.add_mul,<-Int.mul_assoc,Int.mul_comm 256]
  omega
theorem ne {x:Int} (h0:0<=x) (h1:x<256):(UInt8.ofInt x).toNat=x.toNat:=by
 obtain⟨n,rfl⟩:=Int.eq_ofNat_of_zero_le h0
 unfold UInt8.ofInt
 rw[UInt8.toNat_ofNat']
 omega
def dw (d:List Int) (i:Nat):Nat:=(d.getD i 0).toNat
theorem aVA {d:List Int} (h:Dig d):∀n,((nv (dw d) 65536 n:Nat):Int)=dv d n
 |0=>rfl
 |n+1=>by
  have ih:=aVA h n
  simp only[nv,dv]
  rw[Int.natCast_add,Int.natCast_mul,Int.natCast_pow,show((65536:Nat):Int)=65536 from rfl,ih]
  unfold dw
  rw[Int.toNat_of_nonneg (h n).1]
theorem aY7 {d:List Int} (h:Dig d) (i:Nat):dw d i<65536:=by
 have:=h i
 unfold dw
 omega
theorem aII {d:List Int} (h:Dig d):∀i j,j<2*i->i<=16->by_ (byS d i) j=if j%2=0 then dw d (j/2)%256 else dw d (j/2)/256
 |0,_,h,_=>absurd h (Nat.not_lt_zero _)
 |i+1,j,hj,hi=>by
  have hd:=h i
  unfold by_
  simp only[byS]
  by_cases e1:j=2*i+1
  ·subst e1
   rw[aE (by rw[length_set,byS_length];omega),if_neg (by omega),ne (by omega) (by omega),show(2*i+1)/2=i by omega]
   unfold dw
   omega
  rw[aA (by omega)]
  by_cases e2:j=2*i
  ·subst e2
   rw[aE (by rw[byS_length];omega),if_pos (by omega),ne (by omega) (by omega),show(2*i)/2=i by omega]
   unfold dw
   omega
  rw[aA (by omega)]
  exact aII h i j (by omega) (by omega)
theorem aOK {d:List Int} (h:Dig d) {W:Nat} (hW:dv d 16=(W:Int)) {j:Nat} (hj:j<32):by_ (byS d 16) j=W/256^j%256:=by
 rw[aII h 16 j (by omega) (le_refl _)]
 have hn:=aVA h 16
 rw[hW]at hn
 have hn:nv (dw d) 65536 16=W:=Int.ofNat_inj.1 hn
 have hd:=za (f:=dw d) (B:=65536) (by decide) (q:=j/2) (n:=16) (λi _=>aY7 h i) (by omega)
 rw[hn]at hd
 rw[<-hd]
 have hp:(65536:Nat)^(j/2)=256^(2*(j/2)):=aPV _
 rw[hp]
 split
 ·rw[show 2*(j/2)=j by omega]
  omega
 rw[show(256:Nat)^j=256^(2*(j/2))*256 by rw[<-Nat.pow_succ];congr 1;omega,<-Nat.div_div_eq_div_mul]
 omega
theorem aNI {a:List UInt64} {d:List Int} {W:Nat} (ha:wv a 4=W) (hd:Dig d) (hW:dv d 16=(W:Int)):xN a 32=byS d 16:=
 vi (iD _ _) (byS_length _ _) λi hi=>by rw[aFL a hi,aOK hd hW hi,ha]
theorem aF5 {d:List Int} (h:Dig d) (n:Nat):dv (moS d n n) 16=dv d n%Lz:=by
 have h17:=aQJ h n
 have hD:=iH h n n
 have e:dv (moS d n n) 17=dv (moS d n n) 16+(moS d n n).getD 16 0*65536^16:=rfl
 have hb:=aJ hD 16
 have hm1:=Int.emod_lt_of_pos (dv d n) aOP
 have hg:=hD 16
 have hL:Lz<65536^16:=by decide
 have h0:(moS d n n).getD 16 0=0:=by
  rcases Int.lt_or_le 0 ((moS d n n).getD 16 0)with h3|h3
  ·have:1*65536^16<=(moS d n n).getD 16 0*65536^16:=Int.mul_le_mul_of_nonneg_right (by omega) (by decide)
   omega
  omega
 rw[h0,Int.zero_mul]at e
 omega
theorem aE7 (b:List UInt8):xN (mdL (am b b.length (8*b.length))) 32=sf b:=by
 rw[xJ]
 refine aNI (mg b _) (iH (dC b _).1 _ _) ?_
 rw[aF5 (dC b _).1,jA]
 rfl
theorem aTV (a b c:List UInt8) {w:List UInt64} (h:wv w 4=(bv c 32+bv a 32*bv b 32)%Ln):xN w 32=aQM a b c:=by
 rw[sh]
 have da:=(dC a 32).1
 have db:=(dC b 32).1
 have dc:=(dC c 32).1
 refine aNI h (iH (kD da db dc 16) _ _) ?_
 rw[aF5 (kD da db dc 16),ph da db dc 16 (le_refl _)]
 have ea:=jA a 32
 have eb:=jA b 32
 have ec:=jA c 32
 rw[show(32+1)/2=16 from rfl]at ea eb ec
 rw[ea,eb,ec]
 rfl
end Go.Proofs.YtieblfbmmbkjdaaGreat
namespace Go.Proofs.YtieblfbmmbkjdaaGreat
open Go Go.Sx
def aW2 (b:List UInt8) (n:Nat):SV:=if 64<n then .tup [.a8 (replicate 32 0),.ff]else .tup [.a8 (sf b),.tt]
theorem ab8 (b:List UInt8) (n:Nat) (hb:b.length=n):Sx.Fn Γ.P 59 [.slx 1000 0 0 n] [(1000,.mem false 0 [(n,.a8 b)])]
  (λv M=>v=aW2 b n/\M=[(1000,.mem false 0 [(n,.a8 b)])]):=by
 have hR:=fQ b
 have hQ:=aE7 b
 rw[hb]at hQ
 refine aG (Γ:=Γ) (fn:=Tryz.f59) rfl rfl rfl rfl ?_
 refine gB ?_
 refine zB.i ?_ ?_<;>intro h
 ·refine gB ?_
  refine Ret.i (.tup [.a8 (replicate 32 0),.ff]) [(1000,.mem false 0 [(n,.a8 b)])] [] rfl fc ⟨(if_pos (by omega)).symm,rfl⟩ rfl fc rfl fc rfl
 have hM:=abI b n hb (by omega)
 have hml:=bc (am b n (8*n))
 have hO:=abJ (mdL (am b n (8*n))) hml
 rw[hQ]at hO
 generalize mdL (am b n (8*n))=m at hM hO hml
 have hv:aW2 b n= .tup [.a8 (sf b),.tt]:=if_neg (by omega)
 generalize sf b=R at hO hR hv
 refine gB ?_
 refine Call.i hM [(1000,(1000,0,none))] rfl fc rfl fc rfl ?_
 rintro _ _ ⟨rfl,rfl⟩
 refine gB ?_
 refine Call.pure hO rfl fc ?_
 intro v hv'
 subst hv'
 refine gB ?_
 refine Ret.i (.tup [.a8 R,.tt]) [(1000,.mem false 0 [(n,.a8 b)])] [] rfl fc ⟨hv.symm,rfl⟩ rfl fc rfl fc rfl
theorem aWE (b:List UInt8) (hb:b.length=32):Sx.Fn Γ.P 28 [.a8 b] [] (λv _=>v= .bool (sf b=b)):=by
 have hM:=abI b 32 hb (by omega)
 have hQ:=aE7 b
 rw[hb]at hQ
 have hml:=bc (am b 32 (8*32))
 have hO:=abJ (mdL (am b 32 (8*32))) hml
 rw[hQ]at hO
 have hl:=fQ b
 generalize mdL (am b 32 (8*32))=m at hM hO hml
 generalize sf b=R at hO hl
 refine aG (Γ:=Γ) (fn:=Tryz.f28) rfl rfl rfl rfl ?_
 refine gB ?_
 refine aH.i [[],[0],[0,1],[],r_4,r_5] [0,3,1,2,4,5] (by kernel_rfl) ?_
 refine gB ?_
 refine Call.i hM [(1000,(1,0,none))] rfl fc rfl fc rfl ?_
 rintro _ _ ⟨rfl,rfl⟩
 refine cL.i [] rfl rfl ?_
 refine gB ?_
 refine Call.pure hO rfl fc ?_
 rintro _ rfl
 refine cL.i [] rfl rfl ?_
 refine gB ?_
 refine Ret.i (.bool (R=b)) [] [] rfl trivial rfl rfl ?_ rfl trivial rfl
 exact Iff.rfl
end Go.Proofs.YtieblfbmmbkjdaaGreat
namespace Go.Proofs.YtieblfbmmbkjdaaGreat
open Go Go.Sx
theorem ew {a b:Nat} (ha:a<4294967296) (hb:b<4294967296):a*b<=18446744065119617025:=by
 have:a*b<=4294967295*4294967295:=Nat.mul_le_mul (by omega) (by omega)
 omega
theorem sk (x1 x0 y1 y0:Nat):(x1*4294967296+x0)*(y1*4294967296+y0)=x1*y1*18446744073709551616+(x1*y0+x0*y1)*4294967296+x0*y0:=by
 rw[add_mul,mul_add,mul_add]
 have e1:x1*4294967296*(y1*4294967296)=x1*y1*18446744073709551616:=by
  rw[mul_assoc,Nat.mul_left_comm 4294967296,<-mul_assoc]
 have e2:x1*4294967296*y0=x1*y0*4294967296:=by rw[Nat.mul_right_comm]
 have e3:x0*(y1*4294967296)=x0*y1*4294967296:=by rw[mul_assoc]
 rw[e1,e2,e3]
 omega
theorem yU (x:UInt64):(x&&&UInt64.ofNat 4294967295).toNat=x.toNat%4294967296:=by
 rw[UInt64.toNat_and,show(UInt64.ofNat 4294967295).toNat=2^32-1 from rfl,Nat.and_two_pow_sub_one_eq_mod]
theorem aEL (x:UInt64):(aF x 32).toNat=x.toNat/4294967296:=by
 have:=x.toNat_lt
 unfold aF
 rw[toNat_ofNat',Nat.shiftRight_eq_div_pow,mod_eq_of_lt (by omega)]
theorem xQ (x y:UInt64):(muH x y).toNat=x.toNat*y.toNat/18446744073709551616:=by
 have hx:=x.toNat_lt
 have hy:=y.toNat_lt
 have sx:x.toNat=x.toNat/4294967296*4294967296+x.toNat%4294967296:=by omega
 have sy:y.toNat=y.toNat/4294967296*4294967296+y.toNat%4294967296:=by omega
 have ps:=sk (x.toNat/4294967296) (x.toNat%4294967296) (y.toNat/4294967296) (y.toNat%4294967296)
 rw[<-sx,<-sy]at ps
 have b11:=ew (a:=x.toNat/4294967296) (b:=y.toNat/4294967296) (by omega) (by omega)
 have b10:=ew (a:=x.toNat/4294967296) (b:=y.toNat%4294967296) (by omega) (by omega)
 have b01:=ew (a:=x.toNat%4294967296) (b:=y.toNat/4294967296) (by omega) (by omega)
 have b00:=ew (a:=x.toNat%4294967296) (b:=y.toNat%4294967296) (by omega) (by omega)
 unfold muH muT
 simp only[toNat_add,UInt64.toNat_mul,yU,aEL]
 generalize x.toNat/4294967296*(y.toNat/4294967296)=p11 at *
 generalize x.toNat/4294967296*(y.toNat%4294967296)=p10 at *
 generalize x.toNat%4294967296*(y.toNat/4294967296)=p01 at *
 generalize x.toNat%4294967296*(y.toNat%4294967296)=p00 at *
 generalize x.toNat*y.toNat=P at *
 omega
theorem pg (x y:UInt64):(muH x y).toNat*18446744073709551616+(x*y).toNat=x.toNat*y.toNat:=by
 rw[xQ,UInt64.toNat_mul]
 omega
theorem nJ (x y:UInt64):(gF x y 0).toNat+(oO x y 0).toNat*18446744073709551616=x.toNat+y.toNat:=by
 have:=x.toNat_lt
 have:=y.toNat_lt
 unfold gF oO
 rw[toNat_ofNat',toNat_ofNat',show(0:UInt64).toNat=0 from rfl]
 omega
theorem aI2 (x y:UInt64):(oO x y 0).toNat<=1:=by
 have:=x.toNat_lt
 have:=y.toNat_lt
 unfold oO
 rw[toNat_ofNat',show(0:UInt64).toNat=0 from rfl]
 omega
theorem aDO {l:List UInt64} {q:Nat} {v:UInt64}:∀{n:Nat},q<n->q<l.length->wv (l.set q v) n+(l.getD q 0).toNat*18446744073709551616^q=wv l n+v.toNat*18446744073709551616^q
 |0,h,_=>absurd h (Nat.not_lt_zero _)
 |n+1,h,hl=>by
  have e1:wv (l.set q v) (n+1)=wv (l.set q v) n+((l.set q v).getD n 0).toNat*18446744073709551616^n:=rfl
  have e2:wv l (n+1)=wv l n+(l.getD n 0).toNat*18446744073709551616^n:=rfl
  rw[e1,e2]
  by_cases hq:q=n
  ·subst hq
   rw[tu (le_refl _),aE hl]
   omega
  have ih:=aDO (l:=l) (q:=q) (v:=v) (n:=n) (by omega) hl
  rw[aA (by omega)]
  omega
theorem pw1 (H q B:Nat):H*B^(q+1)=H*B*B^q:=by rw[pow_succ',mul_assoc]
theorem aQZ {B H0 lo0 P lo1 d1 T S d2 O:Nat} (hm:H0*B+lo0=P) (a1:lo1+d1*B=lo0+T) (a2:S+d2*B=lo1+O):
  S+(H0+d1+d2)*B=P+T+O:=by
 rw[add_mul,add_mul]
 generalize H0*B=h at *
 generalize d1*B=x1 at *
 generalize d2*B=x2 at *
 omega
theorem aKW {t:List UInt64} {x y over lo c1 s c2 h:UInt64} {q V:Nat} (hq:q<8) (ht:t.length=8)
  (hlo:lo=gF (x*y) (t.getD q 0) 0) (hc1:c1=oO (x*y) (t.getD q 0) 0) (hs:s=gF lo over 0) (hc2:c2=oO lo over 0) (hh:h=muH x y+c1+c2)
  (hV:wv t 8+over.toNat*18446744073709551616^q=V):
  wv (t.set q s) 8+h.toNat*18446744073709551616^(q+1)=V+x.toNat*y.toNat*18446744073709551616^q:=by
 have hw:=aDO (l:=t) (q:=q) (v:=s) (n:=8) hq (by omega)
 have hm:=pg x y
 have a1:=nJ (x*y) (t.getD q 0)
 have a2:=nJ lo over
 have l1:=aI2 (x*y) (t.getD q 0)
 have l2:=aI2 lo over
 rw[<-hlo,<-hc1]at a1
 rw[<-hs,<-hc2]at a2
 rw[<-hc1]at l1
 rw[<-hc2]at l2
 have hx:=x.toNat_lt
 have hy:=y.toNat_lt
 have hp:x.toNat*y.toNat<=18446744073709551615*18446744073709551615:=Nat.mul_le_mul (by omega) (by omega)
 have hn:h.toNat=((muH x y).toNat+c1.toNat+c2.toNat)%18446744073709551616:=by
  rw[hh,toNat_add,toNat_add]
  omega
 rw[hn]
 clear hn hh hlo hc1 hs hc2 hx hy
 generalize (x*y).toNat=lo0 at *
 generalize (muH x y).toNat=H0 at *
 generalize x.toNat*y.toNat=P at *
 have hP:P<340282366920938463426481119284349108226:=by omega
 have hH:H0*18446744073709551616<=P:=by omega
 have hH2:H0<=18446744073709551614:=by omega
 have hO:=over.toNat_lt
 have hT:=(t.getD q 0).toNat_lt
 generalize s.toNat=S at *
 generalize (t.getD q 0).toNat=T at *
 generalize over.toNat=O at *
 generalize lo.toNat=lo1 at *
 generalize c1.toNat=d1 at *
 generalize c2.toNat=d2 at *
 have hH3:H0+d1+d2<18446744073709551616:=by omega
 rw[mod_eq_of_lt hH3]
 have key:S+(H0+d1+d2)*18446744073709551616=P+T+O:=aQZ hm a1 a2
 clear hp hm a1 a2 l1 l2 hP hH hH2 hO hT hH3
 generalize H0+d1+d2=H at *
 have e:H*18446744073709551616^(q+1)=H*18446744073709551616*18446744073709551616^q:=pw1 _ _ _
 rw[e]
 generalize (18446744073709551616:Nat)^q=p at *
 have k2:(S+H*18446744073709551616)*p=(P+T+O)*p:=by rw[key]
 rw[add_mul,add_mul,add_mul]at k2
 omega
theorem aMK {t:List UInt64} {over s c:UInt64} {q V:Nat} (hq:q<8) (ht:t.length=8)
  (hs:s=gF (t.getD q 0) over 0) (hc:c=oO (t.getD q 0) over 0) (hV:wv t 8+over.toNat*18446744073709551616^q=V):
  wv (t.set q s) 8+c.toNat*18446744073709551616^(q+1)=V:=by
 have hw:=aDO (l:=t) (q:=q) (v:=s) (n:=8) hq (by omega)
 have a1:=nJ (t.getD q 0) over
 rw[<-hs,<-hc]at a1
 have e:c.toNat*18446744073709551616^(q+1)=c.toNat*18446744073709551616*18446744073709551616^q:=pw1 _ _ _
 rw[e]
 generalize (18446744073709551616:Nat)^q=p at *
 have k2:(s.toNat+c.toNat*18446744073709551616)*p=((t.getD q 0).toNat+over.toNat)*p:=by rw[a1]
 rw[add_mul,add_mul]at k2
 omega
def wdS (t:List UInt64):Nat->List UInt8
 |0=>replicate 64 0
 |i+1=>(wdS t i).set i (aF (t.getD (i/8) 0) (i%8*8)).toUInt8
theorem mF (t:List UInt64):∀i,(wdS t i).length=64
 |0=>List.length_replicate
 |i+1=>by simp only[wdS,length_set,mF t i]
theorem aDR (t:List UInt64):∀i j,j<i->i<=64->(wdS t i).getD j 0=(aF (t.getD (j/8) 0) (j%8*8)).toUInt8
 |0,_,h,_=>absurd h (Nat.not_lt_zero _)
 |i+1,j,h,hi=>by
  simp only[wdS]
  by_cases e:j=i
  ·subst e;rw[aE (by rw[mF];omega)]
  rw[aA (by omega),aDR t i j (by omega) (by omega)]
theorem aSM (t:List UInt64) {j:Nat} (hj:j<64):by_ (wdS t 64) j=wv t 8/256^j%256:=by
 unfold by_
 rw[aDR t 64 j hj (le_refl _)]
 unfold aF
 rw[UInt64.toNat_toUInt8,toNat_ofNat',Nat.shiftRight_eq_div_pow]
 have h1:=ya t (n:=8) (q:=j/8) (by omega)
 unfold wd_ at h1
 rw[<-h1]
 have e:(256:Nat)^j=18446744073709551616^(j/8)*2^(j%8*8):=by
  rw[show(18446744073709551616:Nat)=256^8 by decide,show(2:Nat)^(j%8*8)=256^(j%8) by rw[mul_comm,pow_mul],<-pow_mul,<-pow_add]
  congr 1;omega
 rw[e,<-Nat.div_div_eq_div_mul]
 generalize wv t 8/18446744073709551616^(j/8)=W
 have e3:(18446744073709551616:Nat)=2^(j%8*8)*(256*256^(7-j%8)):=by
  rw[show(2:Nat)^(j%8*8)=256^(j%8) by rw[mul_comm,pow_mul],<-pow_succ',<-pow_add,show j%8+(7-j%8+1)=8 by omega]
 have h64:W%18446744073709551616/2^(j%8*8)<18446744073709551616:=Nat.lt_of_le_of_lt (Nat.div_le_self _ _) (mod_lt _ (by decide))
 rw[mod_eq_of_lt (a:=W%18446744073709551616/2^(j%8*8)) h64]
 rw[e3,Nat.mod_mul_right_div_self,Nat.mod_mul_right_mod]
theorem aOV (t:List UInt64):bv (wdS t 64) 64=wv t 8:=by
 unfold bv
 rw[dt (by decide) (W:=wv t 8) λi hi=>aSM t hi]
 have h:=wS t 8
 exact mod_eq_of_lt (by rw[show(256:Nat)^64=18446744073709551616^8 by decide];exact h)
end Go.Proofs.YtieblfbmmbkjdaaGreat
namespace Go.Proofs.YtieblfbmmbkjdaaGreat
open Go Go.Sx
theorem aFV {f:Nat->Nat} {B n:Nat}:∀k,(∀i,n<=i->f i=0)->nv f B (n+k)=nv f B n
 |0,_=>rfl
 |k+1,h=>by
  have ih:=aFV (f:=f) (B:=B) (n:=n) k h
  show nv f B (n+k)+f (n+k)*B^(n+k)=_
  rw[h (n+k) (by omega),zero_mul,Nat.add_zero,ih]
theorem aJL {z:List UInt64} (hz:z.length=4):wv (z++replicate 4 0) 8=wv z 4:=by
 have h:∀i,4<=i->wd_ (z++replicate 4 0) i=0:=by
  intro i hi
  unfold wd_
  rw[getD_eq_getElem?_getD,List.getElem?_append_right (by omega),List.getElem?_replicate]
  split <;>rfl
 have e4:wv (z++replicate 4 0) 4=wv z 4:=so λi hi=>by
  unfold wd_
  rw[getD_eq_getElem?_getD,List.getElem?_append_left (by omega),<-getD_eq_getElem?_getD]
 exact(aFV 4 h).trans e4
theorem aE4 (x y:List UInt64) {W:Nat}:W+wv x 0*wv y 4=W:=by
 rw[show wv x 0=0 from rfl,zero_mul,Nat.add_zero]
theorem aKD (W X:Nat) (y:List UInt64) (i:Nat):W+(0:UInt64).toNat*18446744073709551616^(i+0)=W+X*wv y 0*18446744073709551616^i:=by
 rw[show wv y 0=0 from rfl,show(0:UInt64).toNat=0 from rfl,Nat.mul_zero,zero_mul,zero_mul]
theorem aPL (V X W Y B i j:Nat):V+X*W*B^i+X*Y*B^(i+j)=V+X*(W+Y*B^j)*B^i:=by
 rw[pow_add,mul_add,add_mul,Nat.add_assoc]
 congr 2
 rw[mul_comm (B^i),<-mul_assoc,<-mul_assoc]
theorem aKE {V X i j:Nat} {y:List UInt64}:V+X*wv y j*18446744073709551616^i+X*(y.getD j 0).toNat*18446744073709551616^(i+j)=V+X*wv y (j+1)*18446744073709551616^i:=aPL _ _ _ _ _ _ _
theorem aPM (Z:Nat) (x y:List UInt64) (i:Nat):Z+wv x i*wv y 4+(x.getD i 0).toNat*wv y 4*18446744073709551616^i=Z+wv x (i+1)*wv y 4:=by
 have e:wv x (i+1)=wv x i+(x.getD i 0).toNat*18446744073709551616^i:=rfl
 rw[e,add_mul,Nat.add_assoc,Nat.mul_right_comm]
theorem aI3 (x y z:List UInt64) {i:Nat} (hi:i<=4):wv z 4+wv x i*wv y 4<18446744073709551616^8:=by
 have hz:=wS z 4
 have hy:=wS y 4
 have hx:wv x i<18446744073709551616^4:=Nat.lt_of_lt_of_le (wS x i) (Nat.pow_le_pow_right (by decide) hi)
 have e:(18446744073709551616:Nat)^8=18446744073709551616^4*18446744073709551616^4:=by rw[<-pow_add]
 rw[e]
 have hp:0<(18446744073709551616:Nat)^4:=by decide
 generalize (18446744073709551616:Nat)^4=Q at *
 have h1:wv x i*wv y 4<=(Q-1)*(Q-1):=Nat.mul_le_mul (by omega) (by omega)
 have h2:Q*Q=(Q-1)*(Q-1)+(Q-1)+Q:=by
  have e:Q=Q-1+1:=by omega
  generalize Q-1=R at e⊢
  subst e
  rw[add_mul,mul_add]
  omega
 generalize (Q-1)*(Q-1)=S at *
 generalize wv x i*wv y 4=T at *
 omega
theorem aP4 {W V:Nat} {c:UInt64} (h:W+c.toNat*18446744073709551616^8=V) (hv:V<18446744073709551616^8):c.toNat=0:=by
 generalize (18446744073709551616:Nat)^8=Q at *
 rcases Nat.eq_zero_or_pos c.toNat with h1|h1
 ·exact h1
 have:1*Q<=c.toNat*Q:=Nat.mul_le_mul_right _ h1
 generalize c.toNat*Q=S at *
 omega
theorem aQI (a b c L:Nat):(c%L+a%L*(b%L))%L=(c+a*b)%L:=by
 rw[add_mod,Nat.mod_mod,<-Nat.mul_mod,<-add_mod]
theorem aUQ (a b c:List UInt8) (ha:a.length=32) (hb:b.length=32) (hc:c.length=32):Sx.Fn Γ.P 95 [.a8 a,.a8 b,.a8 c] [] (λv _=>v= .a8 (aQM a b c)):=by
 have hRl:=dN a b c
 have hMa:=abI a 32 ha (by omega)
 have hMb:=abI b 32 hb (by omega)
 have hMc:=abI c 32 hc (by omega)
 have lx:=bc (am a 32 (8*32))
 have ly:=bc (am b 32 (8*32))
 have lz:=bc (am c 32 (8*32))
 have vx:=mg a 32
 have vy:=mg b 32
 have vz:=mg c 32
 generalize mdL (am a 32 (8*32))=x at *
 generalize mdL (am b 32 (8*32))=y at *
 generalize mdL (am c 32 (8*32))=z at *
 refine aG (Γ:=Γ) (fn:=Tryz.f95) rfl rfl rfl rfl ?_
 refine gB ?_
 refine aH.i [[],[0],[],[0,1,2],[],[],r_6,r_7] [0,2,4,5,1,3,6,7] (by kernel_rfl) ?_
 refine gB ?_
 refine Call.i hMa [(1000,(3,0,none))] rfl fc rfl fc rfl ?_
 rintro _ _ ⟨rfl,rfl⟩
 refine cL.i [] rfl rfl ?_
 refine gB ?_
 refine Call.i hMb [(1000,(4,0,none))] rfl fc rfl fc rfl ?_
 rintro _ _ ⟨rfl,rfl⟩
 refine cL.i [] rfl rfl ?_
 refine gB ?_
 refine Call.i hMc [(1000,(5,0,none))] rfl fc rfl fc rfl ?_
 rintro _ _ ⟨rfl,rfl⟩
 refine gB ?_
 refine gN ?_
 refine aH.i [[],[],[0,1]] [0,1,2] (by kernel_rfl) ?_
 refine fg.i ?_ ?_
 ·exact fc
 have z0:(UInt64.ofNat 0).toNat<=1:=by decide
 have tz:∃t:List UInt64,t=z++replicate 4 0:=⟨_,rfl⟩
 obtain⟨t0,ht0⟩:=tz
 have hl0:t0.length=8:=by rw[ht0,zlA,lz,List.length_replicate]
 have hv0:wv t0 8=wv z 4:=by rw[ht0];exact aJL lz
 refine aY.i (σ:=List UInt64×Nat) (λs=>s.1.length=8/\s.2<=4/\wv s.1 8=wv z 4+wv x s.2*wv y 4)
  (λs=>([(6,.ptr 6 0 none),(7,.ptr 7 0 none),(8,.ptr 8 0 none),(9,.ptr 9 0 none),(30,.i .i64 s.2)],
   [(6,.mem true 0 [(32,.a8 (replicate 32 0))]),(7,.mem true 0 [(4,.a64 x)]),(8,.mem true 0 [(4,.a64 y)]),(9,.mem true 0 [(8,.a64 s.1)])])) (λs=>4-s.2) (t0,0) ⟨hl0,zero_le _,?_⟩ ?_ ?_
 ·rw[hv0];exact(aE4 _ _).symm
 ·refine Le.i [] rfl ?_ rfl ?_ rfl
  ·exact fc
  repeat' first|exact trivial|refine zA.app ?_ ?_|refine zA.zd ?_ ?_|refine zA.cons ?_ ?_|exact fc|fail
  show t0=_
  simp only[getD_none,drop_zero,List.take_zero,List.nil_append,Nat.zero_add]
  rw[take_of_length_le (l:=z) (i:=4) (by omega),lz,take_of_length_le (l:=z) (by omega),ht0]
  rfl
 rintro⟨t,i⟩ ⟨htl,hi,htv⟩
 have hi:i<=4:=hi
 have htl:t.length=8:=htl
 have htv:wv t 8=wv z 4+wv x i*wv y 4:=htv
 refine zB.i ?_ ?_<;>intro hc
 ·have hc:(i:Int)<4:=hc
  refine gB ?_
  refine aY.i (σ:=List UInt64×UInt64×Nat) (λs=>s.1.length=8/\s.2.2<=4/\wv s.1 8+s.2.1.toNat*18446744073709551616^(i+s.2.2)=wv t 8+(x.getD i 0).toNat*wv y s.2.2*18446744073709551616^i)
   (λs=>([(6,.ptr 6 0 none),(7,.ptr 7 0 none),(8,.ptr 8 0 none),(9,.ptr 9 0 none),(11,.i .i64 i),(12,.u64 s.2.1),(30,.i .i64 i),(33,.i .i64 s.2.2)],
    [(6,.mem true 0 [(32,.a8 (replicate 32 0))]),(7,.mem true 0 [(4,.a64 x)]),(8,.mem true 0 [(4,.a64 y)]),(9,.mem true 0 [(8,.a64 s.1)])])) (λs=>4-s.2.2) (t,0,0) ⟨htl,zero_le _,?_⟩ ?_ ?_
  ·exact aKD _ _ _ _
  ·refine Le.i [] rfl fc rfl fc rfl
  rintro⟨d,over,j⟩ ⟨hdl,hj,hdv⟩
  have hj:j<=4:=hj
  have hdl:d.length=8:=hdl
  have hdv:wv d 8+over.toNat*18446744073709551616^(i+j)=wv t 8+(x.getD i 0).toNat*wv y j*18446744073709551616^i:=hdv
  refine zB.i ?_ ?_<;>intro hc2
  ·have hc2:(j:Int)<4:=hc2
   have hU:=aYX (x.getD i 0) (y.getD j 0)
   have hst:=aKW (t:=d) (x:=x.getD i 0) (y:=y.getD j 0) (over:=over) (q:=i+j) (by omega) hdl rfl rfl rfl rfl rfl hdv
   rw[aKE]at hst
   have e0:((i:Int)+j).toNat=i+j:=by omega
   refine gB ?_
   refine aH.i [[],[0],[0,1],[],[3],[3,4],r_6,r_7,r_8,r_8,r_9,fe] kX (by kernel_rfl) ?_
   repeat refine sdH ?_
   refine Call.pure hU rfl fcH ?_
   rintro _ rfl
   repeat refine sdH ?_
   refine⟨(_,_,j+1),⟨?_,by show j+1<=4;omega,hst⟩,by show 4-(j+1)<4-j;omega,Le.i [] rfl ?_ rfl ?_ rfl⟩
   ·show(d.set _ _).length=8
    rw[length_set];exact hdl
   ·exact fcH
   exact fcH
  have h4:j=4:=by have hc2:¬(j:Int)<4:=hc2;omega
  subst h4
  have hdv:wv d 8+over.toNat*18446744073709551616^(i+4)=wv z 4+wv x (i+1)*wv y 4:=by rw[hdv,htv];exact aPM _ _ _ _
  refine gB ?_
  refine aY.i (σ:=List UInt64×UInt64×Nat) (λs=>s.1.length=8/\s.2.2<=8/\wv s.1 8+s.2.1.toNat*18446744073709551616^s.2.2=wv z 4+wv x (i+1)*wv y 4)
   (λs=>([(6,.ptr 6 0 none),(7,.ptr 7 0 none),(8,.ptr 8 0 none),(9,.ptr 9 0 none),(12,.u64 s.2.1),(18,.i .i64 s.2.2),(30,.i .i64 i)],
    [(6,.mem true 0 [(32,.a8 (replicate 32 0))]),(7,.mem true 0 [(4,.a64 x)]),(8,.mem true 0 [(4,.a64 y)]),(9,.mem true 0 [(8,.a64 s.1)])])) (λs=>8-s.2.2) (d,over,i+4) ⟨hdl,by show i+4<=8;omega,hdv⟩ ?_ ?_
  ·refine Le.i [] rfl fc rfl fc rfl
  rintro⟨e,ov,k⟩ ⟨hel,hk,hev⟩
  have hk:k<=8:=hk
  have hel:e.length=8:=hel
  have hev:wv e 8+ov.toNat*18446744073709551616^k=wv z 4+wv x (i+1)*wv y 4:=hev
  refine zB.i ?_ ?_<;>intro hq
  ·have hq:(k:Int)<8:=hq
   refine zB.i ?_ ?_<;>intro hq2
   ·have hst:=aMK (t:=e) (over:=ov) (q:=k) (by omega) hel rfl rfl hev
    refine gB ?_
    refine⟨(_,_,k+1),⟨?_,by show k+1<=8;omega,hst⟩,by show 8-(k+1)<8-k;omega,Le.i [] rfl ?_ rfl ?_ rfl⟩
    ·show(e.set _ _).length=8
     rw[length_set];exact hel
    ·exact fcn
    exact fcn
   have hz2:ov.toNat=0:=by
    have hq2:¬(UInt64.ofNat 0).toNat<ov.toNat:=hq2
    have:(UInt64.ofNat 0).toNat=0:=rfl
    omega
   rw[hz2,zero_mul,Nat.add_zero]at hev
   refine gB ?_
   refine⟨(e,i+1),⟨hel,by show i+1<=4;omega,hev⟩,by show 4-(i+1)<4-i;omega,Le.i [] rfl fc rfl fc rfl⟩
  have h8:k=8:=by have hq:¬(k:Int)<8:=hq;omega
  subst h8
  have hz2:ov.toNat=0:=aP4 hev (aI3 x y z (by omega))
  rw[hz2,zero_mul,Nat.add_zero]at hev
  refine gB ?_
  refine⟨(e,i+1),⟨hel,by show i+1<=4;omega,hev⟩,by show 4-(i+1)<4-i;omega,Le.i [] rfl fc rfl fc rfl⟩
 have h4:i=4:=by have hc:¬(i:Int)<4:=hc;omega
 subst h4
 clear hc hi
 refine gB ?_
 refine aY.i (σ:=Nat) (λi=>i<=64) (λi=>([(6,.ptr 6 0 none),(9,.ptr 9 0 none),(19,.ptr 19 0 none),(94,.i .i64 i)],
  [(6,.mem true 0 [(32,.a8 (replicate 32 0))]),(9,.mem true 0 [(8,.a64 t)]),(19,.mem true 0 [(64,.a8 (wdS t i))])])) (λi=>64-i) 0 (zero_le _) ?_ ?_
 ·refine Le.i [] rfl fc rfl fc rfl
 rintro i hi
 have hwl:=mF t i
 have hn:wdS t (i+1)=(wdS t i).set i (aF (t.getD (i/8) 0) (i%8*8)).toUInt8:=rfl
 refine zB.i ?_ ?_<;>intro hc
 ·have hc:(i:Int)<64:=hc
  have e1:((i:Int)/8).toNat=i/8:=by omega
  have e2:((i:Int)%8*8).toNat=i%8*8:=by omega
  repeat refine sdJ ?_
  refine⟨i+1,by omega,by omega,Le.i [] rfl fcJ rfl fcJ rfl⟩
 have h64:i=64:=by have hc:¬(i:Int)<64:=hc;omega
 subst h64
 have hM:=abI (wdS t 64) 64 hwl (by omega)
 have hwv:=mg (wdS t 64) 64
 have hml:=bc (am (wdS t 64) 64 (8*64))
 rw[aOV,htv,vx,vy,vz]at hwv
 have hO:=abJ (mdL (am (wdS t 64) 64 (8*64))) hml
 rw[aTV a b c (hwv.trans (aQI _ _ _ _))]at hO
 generalize mdL (am (wdS t 64) 64 (8*64))=m at *
 generalize wdS t 64=w at *
 generalize aQM a b c=R at *
 refine gB ?_
 refine Call.i hM [(1000,(19,0,none))] rfl fc rfl fc rfl ?_
 rintro _ _ ⟨rfl,rfl⟩
 refine gB ?_
 refine Call.pure hO rfl fc ?_
 rintro _ rfl
 refine gB ?_
 refine Ret.i (.a8 R) [] [] rfl fc rfl rfl fc rfl fc rfl
end Go.Proofs.YtieblfbmmbkjdaaGreat
namespace Go.Proofs.YtieblfbmmbkjdaaGreat
open Go Go.Sx Go.Cu
@[irreducible] def nuB (s:List UInt8):List UInt8:=clB ((ae s).take 32)
theorem aFX (s:List UInt8):nuB s=clB ((ae s).take 32):=by unfold nuB;rfl
theorem fI (s:List UInt8):(nuB s).length=32:=by rw[aFX,aCN,zlT,aW];rfl
@[irreducible] def haB (b:List UInt8):List UInt8:=sf (ae b)
theorem aAC (b:List UInt8):haB b=sf (ae b):=by unfold haB;rfl
theorem fJ (b:List UInt8):(haB b).length=32:=by rw[aAC];exact fQ _
theorem aaF (s:List UInt8) (hs:s.length=32):Sx.Fn Γ.P 36 [.a8 s] [] (λv _=>v= .agg [(32,.a8 (nuB s)),(1,.isl 32 32 1 [(64,.a8 (ae s))])]):=by
 have cH:=aUT s 32 hs (by omega)
 have lH:=aW s
 have hN:=aFX s
 have hc:clB ((ae s).take 32)=(((ae s).take 32).set 0 (((ae s).take 32).getD 0 0&&&ofNat 248)).set 31 (((((ae s).take 32).set 0 (((ae s).take 32).getD 0 0&&&ofNat 248)).getD 31 0&&&ofNat 127)|||ofNat 64):=rfl
 rw[hc]at hN
 have lN:=fI s
 generalize nuB s=N at *
 generalize ae s=H at *
 have lT:(H.take 32).length=32:=by rw[zlT,lH];rfl
 refine cV [4] (Γ:=Γ) (fn:=Tryz.f36) rfl rfl rfl rfl ?_
 refine gB ?_
 refine Call.i cH [(1002,(1,0,none))] rfl fc rfl fc rfl ?_
 rintro _ _ ⟨rfl,rfl⟩
 refine gN ?_
 refine gB ?_
 refine aH.i [[],[0],[],[0,1,2]] r_4 (by kernel_rfl) ?_
 refine gA ?_
 refine Cut.i (σ:=Unit) (λ_=>True) (λ_=>([(2,.ptr 2 0 none),(3,.ptr 3 0 none),(4,.ptr 4 0 none)],
  [(2,.mem true 0 [(32,.a8 (replicate 32 0)),(1,.nsl)]),(3,.mem true 0 [(64,.a8 H)]),(4,.mem true 0 [(32,.a8 (H.take 32)),(1,.nsl)])])) () trivial (Le.i [] rfl ?_ rfl ?_ rfl) ?_
 ·exact fc
 ·repeat' first|exact trivial|refine zA.app ?_ ?_|refine zA.zd ?_ ?_|refine zA.cons ?_ ?_|exact fc|fail
  all_goals(first|(rw[getD_none,drop_zero,zlT,lH];show _=[]++take 32 (take 32 H)++drop 32 (replicate 32 0);rw[List.take_take];simp;done)|trace_state)
 rintro - -
 generalize H.take 32=N0 at *
 refine gB ?_
 refine Ret.ghost [.keep 3,.ice 2 1] [] rfl fc rfl (.agg [(32,.a8 N),(1,.isl 32 32 1 [(64,.a8 H)])]) [] [] rfl fc rfl rfl fc rfl fc rfl
abbrev Pa:=Nat×Nat×List UInt8
def pa0:Pa:=(0,0,[])
def paB (t:Pa):List UInt8:=(t.2.2.drop t.1).take t.2.1
def paF (L:List Pa) (q:Nat):List (Nat×SV):=[(1,.isl (L.getD q pa0).1 (L.getD q pa0).2.1 1 [((L.getD q pa0).2.2.length,.a8 (L.getD q pa0).2.2)])]
def paS (n:Nat) (L:List Pa):List (Nat×SV):=[(n*1,.arr n 1 (paF L))]
def aZU (t:Pa):Prop:=t.1+t.2.1<=t.2.2.length/\t.2.2.length<=1000000
theorem rb {t:Pa} (h:aZU t):(paB t).length=t.2.1:=by
 have:=h.1
 unfold paB
 rw[zlT,zlD];omega
def flB (L:List Pa) (i:Nat):List UInt8:=((L.take i).map paB).flatten
theorem aAJ {L:List Pa} {i:Nat} (h:i<L.length):flB L (i+1)=flB L i++paB (L.getD i pa0):=by
 unfold flB
 rw[cZ pa0 L i h,List.map_append,List.flatten_append]
 simp
theorem aN8 {B:Nat} (L:List Pa) (hL:∀x∈L,(paB x).length<=B):∀i,(flB L i).length<=i*B
 |0=>zero_le _
 |i+1=>by
  have ih:=aN8 L hL i
  rw[Nat.succ_mul]
  rcases Nat.lt_or_ge i L.length with h|h
  ·have:=hL _ (fq pa0 (L:=L) (i:=i) h)
   rw[aAJ h,zlA]
   omega
  have e:flB L (i+1)=flB L i:=by unfold flB;rw[take_of_length_le h,take_of_length_le (by omega)]
  rw[e];omega
theorem abV (L:List Pa) (n:Nat) (W:List UInt8) (hn:L.length=n) (hn1:n<=60) (hL:∀x∈L,aZU x) (hW:(L.map paB).flatten=W):Sx.Fn Γ.P 29 [.slx 1003 0 0 n] [(1003,.mem false 0 (paS n L))]
  (λv M=>v= .a8 (haB W)/\M=[(1003,.mem false 0 (paS n L))]):=by
 unfold paS paF
 refine aG (Γ:=Γ) (fn:=Tryz.f29) rfl rfl rfl rfl ?_
 refine gB ?_
 refine aY.i (σ:=Nat×Nat×Nat) (λs=>s.1<=n/\(flB L s.1).length=s.2.1/\s.2.1<=s.2.2)
  (λs=>([(2,.ptr 202 0 none),(3,.sl 204 0 0 s.2.1 s.2.2),(9,.slx 1003 0 0 n),(10,.i .i64 (n:Int)),(11,.i .i64 (s.1:Int))],[(1003,.mem false 0 [(n*1,.arr n 1 (paF L))]),(202,.mem true 0 [(32,.a8 (replicate 32 0))]),(204,.mem true (s.2.2-s.2.1) [(s.2.1,.a8 (flB L s.1))])]))
  (λs=>n-s.1) (0,0,0) ⟨zero_le _,rfl,le_refl _⟩ ?_ ?_
 ·refine Le.ghost [.own 204 [(0,.a8 [])]] [(3,204)] [(202,(2,0,none))] rfl ⟨rfl,rfl,trivial⟩ rfl rfl fc rfl fc rfl
 rintro⟨i,N,c⟩ ⟨hi,hN,hNc⟩
 have hi:i<=n:=hi
 have hN:(flB L i).length=N:=hN
 have hNc:N<=c:=hNc
 have hle:=aN8 (B:=1000000) L (λx hx=>by rw[rb (hL x hx)];have:=(hL x hx).1;have:=(hL x hx).2;omega) i
 have hle6:N<=60000000:=by rw[<-hN];exact Nat.le_trans hle (Nat.le_trans (Nat.mul_le_mul_right _ (show i<=60 by omega)) (by decide))
 refine zB.i ?_ ?_<;>intro hc
 ·have hc:(i:Int)<n:=hc
  have hok:=hL _ (fq pa0 (L:=L) (i:=i) (by omega))
  have hm:=rb hok
  have hsucc:=aAJ (L:=L) (i:=i) (by omega)
  obtain⟨k1,k2⟩:=hok
  obtain⟨t,ht⟩:∃t,L.getD i pa0=t:=⟨_,rfl⟩
  rw[ht]at hm hsucc k1 k2
  have hl2:(flB L (i+1)).length=N+t.2.1:=by rw[hsucc,zlA,hN,hm]
  refine gC ?_
  refineλc2 hc2'=>?_
  have hc2':N+t.2.1<=c2:=by rw[<-ht];exact hc2'
  refine gC ?_
  refine⟨(i+1,N+t.2.1,c2),⟨by show i+1<=n;omega,hl2,hc2'⟩,by show n-(i+1)<n-i;omega,Le.i [(202,(202,0,none)),(204,(17,0,none))] rfl ?_ rfl ?_ rfl⟩
  ·exact fcK
  repeat' (first|exact trivial|refine zA.app ?_ ?_|refine zA.zd ?_ ?_|refine zA.cons ?_ ?_|exact fcK|fail)
  all_goals(simp only[bq,drop_zero,Ix.val,zQ,Nat.zero_add,zIn,ht];exact hsucc)
 obtain rfl:i=n:=by have hc:¬(i:Int)<n:=hc;omega
 have hF:flB L i=W:=by unfold flB;rw[take_of_length_le (by omega),hW]
 rw[hF]at hN hle
 have hN:W.length=N:=hN
 have cH:=aUT W N hN (by omega)
 have cR:=ab8 (ae W) 64 (aW _)
 have eV:aW2 (ae W) 64= .tup [.a8 (haB W),.tt]:=by rw[aAC];exact if_neg (by omega)
 rw[eV]at cR
 have lH:=aW W
 have lR:=fJ W
 generalize haB W=R at *
 generalize ae W=H at *
 refine gB ?_
 refine Call.i cH [(1002,(204,0,none))] rfl fc rfl fc rfl ?_
 rintro _ _ ⟨rfl,rfl⟩
 refine gN ?_
 refine gB ?_
 refine Call.i cR [(1000,(6,0,none))] rfl fc rfl fc rfl ?_
 rintro _ _ ⟨rfl,rfl⟩
 refine gN ?_
 refine gB ?_
 refine Ret.i (.a8 R) [(1003,.mem false 0 [(i*1,.arr i 1 (paF L))])] [] rfl fc ⟨rfl,rfl⟩ rfl fc rfl fc rfl
end Go.Proofs.YtieblfbmmbkjdaaGreat
namespace Go.Proofs.YtieblfbmmbkjdaaGreat
open Go Go.Sx Go.Cu
@[irreducible] def pS (n:List UInt8):Pt:=basP.mul (lv n)
theorem kq (n:List UInt8):pS n=basP.mul (lv n):=by unfold pS;rfl
@[irreducible] def qm (n:List UInt8):List UInt8:=rD (pS n)
theorem qM (n:List UInt8):qm n=rD (pS n):=by unfold qm;rfl
theorem dS (n:List UInt8):(qm n).length=32:=by rw[qM];exact kQ _
@[irreducible] def spB (s:List UInt8):List UInt8:=qm (nuB s)
theorem ym (s:List UInt8):spB s=qm (nuB s):=by unfold spB;rfl
theorem gU (s:List UInt8):(spB s).length=32:=by rw[ym];exact dS _
def pfB (s:List UInt8):List UInt8:=(ae s).drop 32
@[irreducible] def rrB (s q:List UInt8):List UInt8:=haB (pfB s++q)
@[irreducible] def kkB (s q:List UInt8):List UInt8:=haB (qm (rrB s q)++spB s++q)
@[irreducible] def ssB (s q:List UInt8):List UInt8:=aQM (kkB s q) (nuB s) (rrB s q)
theorem aE1 (s q:List UInt8):rrB s q=haB (pfB s++q):=by unfold rrB;rfl
theorem zw (s q:List UInt8):kkB s q=haB (qm (rrB s q)++spB s++q):=by unfold kkB;rfl
theorem uH (s q:List UInt8):ssB s q=aQM (kkB s q) (nuB s) (rrB s q):=by unfold ssB;rfl
theorem mU (s q:List UInt8):(rrB s q).length=32:=by rw[aE1];exact fJ _
theorem mt (s q:List UInt8):(kkB s q).length=32:=by rw[zw];exact fJ _
theorem mM (s q:List UInt8):(ssB s q).length=32:=by rw[uH];exact dN _ _ _
@[irreducible] def sgB (s q:List UInt8):List UInt8:=qm (rrB s q)++ssB s q
theorem uN (s q:List UInt8):sgB s q=qm (rrB s q)++ssB s q:=by unfold sgB;rfl
theorem gX (s q:List UInt8):(sgB s q).length=64:=by rw[uN,zlA,dS,mM]
theorem aHI (n:List UInt8) (hn:n.length=32) (o:PL) (ho:PR o basP):Sx.Fn Γ.P 32 [.a8 n,ptV o True] [] (λv _=>∃(p:PL) (s:Prop),PS p s (pS n)/\v=ptV p s):=by
 have h:=acI n hn o True basP ho.ps
 rw[<-kq]at h
 exact h
theorem aN7 (p:PL) (s:Prop) (n:List UInt8) (h:PS p s (pS n)):Sx.Fn Γ.P 30 [ptV p s] [] (λv _=>v= .a8 (qm n)):=by
 have h:=abU p s _ h
 rw[<-qM]at h
 exact h
theorem ab1 (s:List UInt8) (hs:s.length=32):Sx.Fn Γ.P 16 [.a8 s] [] (λv _=>v= .a8 (spB s)):=by
 have cS:=aaF s hs
 have lN:=fI s
 have cB:=aaH
 have e:=ym s
 have l:=gU s
 rw[e]at l⊢
 generalize nuB s=N at *
 have cM:=λo ho=>aHI N lN o ho
 have cE:=λp r hp=>aN7 p r N hp
 clear e
 generalize qm N=E at *
 generalize ae s=H at *
 refine aG (Γ:=Γ) (fn:=Tryz.f16) rfl rfl rfl rfl ?_
 refine gB ?_
 refine Call.pure cS rfl fc ?_
 rintro _ rfl
 refine gA ?_
 refine Call.pure cB rfl fc ?_
 rintro v ⟨o,ho,rfl⟩
 obtain⟨o1,o2,o3,o4⟩:=ho.1.len
 have cM:=cM o ho
 unfold ptV at cM
 unfold ptV
 refine gA ?_
 refine Call.pure cM rfl fc ?_
 rintro v ⟨p,r,hp,rfl⟩
 obtain⟨p1,p2,p3,p4⟩:=hp.1
 have cE:=cE p r hp
 unfold ptV at cE
 refine gA ?_
 refine Call.pure cE rfl fc ?_
 rintro _ rfl
 refine gA ?_
 refine Ret.i (.a8 E) [] [] rfl fc rfl rfl fc rfl fc rfl
theorem ul {L:List Pa} {j i m k:Nat} {B:List UInt8} (h:L.getD j pa0=(i,m,B)) (hB:B.length=k):paF L j=[(1,.isl i m 1 [(k,.a8 B)])]:=by unfold paF;rw[h,<-hB]
theorem aM4 {E S G:List UInt8} (hE:E.length=32) (hS:S.length=32) (hG:G=E++S):
  G=take 32 (take 0 (replicate 64 (0:UInt8))++take 32 E++drop 32 (replicate 64 0))++take 32 S++drop 64 (take 0 (replicate 64 (0:UInt8))++take 32 E++drop 32 (replicate 64 0)):=by
 have t1:take 32 E=E:=take_of_length_le (by omega)
 have t2:take 32 S=S:=take_of_length_le (by omega)
 have e:take 0 (replicate 64 (0:UInt8))++E++drop 32 (replicate 64 0)=E++replicate 32 0:=rfl
 rw[t1,t2,e,List.take_left' hE,List.drop_of_length_le (by rw[zlA,hE,List.length_replicate];decide),append_nil,hG]
theorem aYE (s q:List UInt8) (n:Nat) (hs:s.length=32) (hq:q.length=n) (hn:n<=4096):Sx.Fn Γ.P 74 [.a8 s,.isl 0 n 1 [(n,.a8 q)]] [] (λv _=>v= .a8 (sgB s q)):=by
 have cS:=aaF s hs
 have cP:=ab1 s hs
 have lH:=aW s
 have lN:=fI s
 have lP:=gU s
 have eR:=aE1 s q
 have lR:=mU s q
 have eK:=zw s q
 have lK:=mt s q
 have eS:=uH s q
 have lS:=mM s q
 have eG:=uN s q
 have lG:=gX s q
 have hpf:paB (32,32,ae s)=pfB s:=by unfold paB pfB;exact take_of_length_le (by rw[zlD,lH];exact le_refl _)
 have hq0:paB (0,n,q)=q:=by unfold paB;rw[drop_zero];exact take_of_length_le (by show q.length<=n;omega)
 have cH1:=abV [(32,32,ae s),(0,n,q)] 2 (pfB s++q) rfl (by omega) (λx hx=>by
  rcases List.mem_cons.1 hx with rfl|hx
  ·exact⟨by show 32+32<=(ae s).length;omega,by show(ae s).length<=_;omega⟩
  rw[List.mem_singleton.1 hx];exact⟨by show 0+n<=q.length;omega,by show q.length<=_;omega⟩) (by show paB _++(paB _++[])=_;rw[hpf,hq0,append_nil])
 rw[<-eR]at cH1
 have cB:=aaH
 have cM:=λo ho=>aHI (rrB s q) lR o ho
 have cE:=λp r hp=>aN7 p r (rrB s q) hp
 have lE:=dS (rrB s q)
 have hp0:∀X:List UInt8,X.length=32->paB (0,32,X)=X:=λX hX=>by unfold paB;rw[drop_zero];exact take_of_length_le (by show X.length<=32;omega)
 have cH2:=abV [(0,32,qm (rrB s q)),(0,32,spB s),(0,n,q)] 3 (qm (rrB s q)++spB s++q) rfl (by omega) (λx hx=>by
  rcases List.mem_cons.1 hx with rfl|hx
  ·exact⟨by show 0+32<=(qm (rrB s q)).length;omega,by show(qm (rrB s q)).length<=_;omega⟩
  rcases List.mem_cons.1 hx with rfl|hx
  ·exact⟨by show 0+32<=(spB s).length;omega,by show(spB s).length<=_;omega⟩
  rw[List.mem_singleton.1 hx];exact⟨by show 0+n<=q.length;omega,by show q.length<=_;omega⟩) (by show paB _++(paB _++(paB _++[]))=_;rw[hp0 _ lE,hp0 _ lP,hq0,append_nil,List.append_assoc])
 rw[<-eK]at cH2
 have cA:=aUQ (kkB s q) (nuB s) (rrB s q) lK lN lR
 rw[<-eS]at cA
 unfold paS at cH1 cH2
 clear eR eK eS
 generalize sgB s q=G at *
 generalize ssB s q=S at *
 generalize kkB s q=K at *
 generalize qm (rrB s q)=E at *
 generalize spB s=A at *
 generalize nuB s=N at *
 generalize ae s=H at *
 refine cV [4,8] (Γ:=Γ) (fn:=Tryz.f74) rfl rfl rfl rfl ?_
 refine gB ?_
 refine aH.i [[],[0],[],[0,1,2],[],[],r_6,r_7] [0,2,4,5,1,3,6,7] (by kernel_rfl) ?_
 refine gA ?_
 refine Call.pure cS rfl fc ?_
 rintro _ rfl
 refine gA ?_
 refine Call.pure cP rfl fc ?_
 rintro _ rfl
 refine gA ?_
 refine Call.name [(2001,[])] rfl ?_ (kW.i cH1 [(1003,(2001,0,none))] rfl ?_ rfl ?_ rfl ?_)
 ·exact fc
 ·exact fc
 ·repeat' first|exact trivial|refine zA.app ?_ ?_|refine zA.zd ?_ ?_|refine zA.cons ?_ ?_|exact fc|fail
  ·exact ul rfl lH
  exact ul rfl hq
 rintro _ _ ⟨rfl,rfl⟩
 refine gN ?_
 refine gB ?_
 refine aH.i [[],[],[0,1],[0,1,2],[],r_5] [0,4,1,2,3,5] (by kernel_rfl) ?_
 refine gA ?_
 refine Call.pure cB rfl fc ?_
 rintro v ⟨o,ho,rfl⟩
 obtain⟨o1,o2,o3,o4⟩:=ho.1.len
 have cM:=cM o ho
 unfold ptV at cM
 unfold ptV
 refine gA ?_
 refine Call.pure cM rfl fc ?_
 rintro v ⟨p,r,hp,rfl⟩
 obtain⟨p1,p2,p3,p4⟩:=hp.1
 have cE:=cE p r hp
 unfold ptV at cE
 refine gA ?_
 refine Call.pure cE rfl fc ?_
 rintro _ rfl
 refine gA ?_
 generalize rrB s q=R at *
 refine Cut.i (σ:=Unit) (λ_=>True) (λ_=>([(1,.isl 0 n 1 [(n,.a8 q)]),(4,.ptr 204 0 none),(5,.ptr 205 0 none),(6,.ptr 206 0 none),(7,.ptr 207 0 none),(8,.ptr 208 0 none)],
  [(204,.mem true 0 [(64,.a8 (replicate 64 0))]),(205,.mem true 0 [(32,.a8 N),(1,.isl 32 32 1 [(64,.a8 H)])]),(206,.mem false 1 [(32,.a8 A)]),(207,.mem true 0 [(32,.a8 R)]),(208,.mem false 1 [(32,.a8 E)])])) () trivial
  (Le.ghost [.keep 6,.keep 8] [] [(204,(4,0,none)),(205,(5,0,none)),(206,(6,0,none)),(207,(7,0,none)),(208,(8,0,none))] rfl fc rfl rfl fc rfl fc rfl) ?_
 rintro - -
 refine aH.i [[],[],[],[0,1,2],r_4,[],[5],[],r_8,[],ek] [0,1,2,3,5,6,7,9,4,8,10] (by kernel_rfl) ?_
 refine gA ?_
 refine Call.name [(2001,[])] rfl ?_ (kW.i cH2 [(1003,(2001,0,none))] rfl ?_ rfl ?_ rfl ?_)
 ·exact fc
 ·exact fc
 ·repeat' first|exact trivial|refine zA.app ?_ ?_|refine zA.zd ?_ ?_|refine zA.cons ?_ ?_|exact fc|fail
  ·exact ul rfl lE
  ·exact ul rfl lP
  exact ul rfl hq
 rintro _ _ ⟨rfl,rfl⟩
 refine gN ?_
 refine gA ?_
 refine Call.pure cA rfl fc ?_
 rintro _ rfl
 refine gA ?_
 refine aH.i [[],[],[0,1]] [0,1,2] (by kernel_rfl) ?_
 refine gA ?_
 refine aH.i [[],[],[0,1]] [0,1,2] (by kernel_rfl) ?_
 refine gA ?_
 refine Cut.i (σ:=Unit) (λ_=>True) (λ_=>([(4,.ptr 204 0 none),(10,.ptr 210 0 none)],
  [(204,.mem true 0 [(64,.a8 (replicate 64 0))]),(210,.mem true 0 [(64,.a8 G)])])) () trivial (Le.i [(204,(204,0,none)),(210,(10,0,none))] rfl ?_ rfl ?_ rfl) ?_
 ·exact fc
 ·repeat' first|exact trivial|refine zA.app ?_ ?_|refine zA.zd ?_ ?_|refine zA.cons ?_ ?_|exact fc|fail
  all_goals(
   have t1:take 32 E=E:=take_of_length_le (by omega)
   have t2:take 32 S=S:=take_of_length_le (by omega)
   simp only[getD_none,drop_zero,t1,t2,lE,lS]
   exact aM4 lE lS eG)
 rintro - -
 refine gB ?_
 refine Ret.i (.a8 G) [] [] rfl fc rfl rfl fc rfl fc rfl
end Go.Proofs.YtieblfbmmbkjdaaGreat
namespace Go.Proofs.YtieblfbmmbkjdaaGreat
open Go Go.Sx Go.Cu
@[irreducible] def vkB (pub q sg:List UInt8):List UInt8:=haB (sg.take 32++pub++q)
theorem aDX (pub q sg:List UInt8):vkB pub q sg=haB (sg.take 32++pub++q):=by unfold vkB;rfl
theorem aA5 (pub q sg:List UInt8):(vkB pub q sg).length=32:=by rw[aDX];exact fJ _
@[irreducible] def vrP (pub k s:List UInt8):Pt:=(pS s).add ((vg pub).mul (lv k)).ng
theorem aMZ (pub k s:List UInt8):vrP pub k s=(pS s).add ((vg pub).mul (lv k)).ng:=by unfold vrP;rfl
@[irreducible] def vrE (pub k s:List UInt8):List UInt8:=rD (vrP pub k s)
theorem aDW (pub k s:List UInt8):vrE pub k s=rD (vrP pub k s):=by unfold vrE;rfl
theorem aA4 (pub k s:List UInt8):(vrE pub k s).length=32:=by rw[aDW];exact kQ _
def vrf (pub q sg:List UInt8):Prop:=okD pub/\sf (sg.drop 32)=sg.drop 32/\vrE pub (vkB pub q sg) (sg.drop 32)=sg.take 32
theorem aaS {X:List UInt8} (h:X.length=32):take 0 (replicate 32 (0:UInt8))++take 32 X++drop 32 (replicate 32 0)=X:=by
 rw[take_of_length_le (l:=X) (by omega)];show[]++X++[]=X;rw[List.nil_append,append_nil]
theorem aJO (pub q sg:List UInt8) (n:Nat) (hp:pub.length=32) (hq:q.length=n) (hn:n<=4097) (hs:sg.length=64) (hok:okD pub) (hr:sf (sg.drop 32)=sg.drop 32) (o:PL) (ho:PR o (vg pub)) (T:Tm) (M:Mm)
  (hle:Le [] [(1,.isl 0 n 1 [(n,.a8 q)]),(3,.ptr 203 0 none),(7,.ptr 207 0 none),(9,.ptr 209 0 none),(10,.ptr 210 0 none)]
   [(203,.mem false 1 [(32,.a8 pub)]),(207,.mem true 0 [(5,.a64 o.x),(5,.a64 o.y),(5,.a64 o.z),(5,.a64 o.t),(1,.bool True)]),(209,.mem true 0 [(32,.a8 (sg.drop 32))]),(210,.mem false 1 [(32,.a8 (sg.take 32))])] T M):
  aSJ Γ [7] Tryz.f14 7 [] T M (λv _=>v= .bool (vrf pub q sg)):=by
 obtain⟨o1,o2,o3,o4⟩:=ho.1.len
 have lr:(sg.take 32).length=32:=by rw[zlT,hs];rfl
 have ls:(sg.drop 32).length=32:=by rw[zlD,hs]
 have hv:vrf pub q sg↔vrE pub (vkB pub q sg) (sg.drop 32)=sg.take 32:=⟨λh=>h.2.2,λh=>⟨hok,hr,h⟩⟩
 have eK:=aDX pub q sg
 have lK:=aA5 pub q sg
 have lE:=aA4 pub (vkB pub q sg) (sg.drop 32)
 have eE:=aDW pub (vkB pub q sg) (sg.drop 32)
 have eP:=aMZ pub (vkB pub q sg) (sg.drop 32)
 generalize vrf pub q sg=V at *
 generalize sg.take 32=r at *
 generalize sg.drop 32=z at *
 have hq0:paB (0,n,q)=q:=by unfold paB;rw[drop_zero];exact take_of_length_le (by show q.length<=n;omega)
 have hp0:∀X:List UInt8,X.length=32->paB (0,32,X)=X:=λX hX=>by unfold paB;rw[drop_zero];exact take_of_length_le (by show X.length<=32;omega)
 have cH:=abV [(0,32,r),(0,32,pub),(0,n,q)] 3 (r++pub++q) rfl (by omega) (λx hx=>by
  rcases List.mem_cons.1 hx with rfl|hx
  ·exact⟨by show 0+32<=r.length;omega,by show r.length<=_;omega⟩
  rcases List.mem_cons.1 hx with rfl|hx
  ·exact⟨by show 0+32<=pub.length;omega,by show pub.length<=_;omega⟩
  rw[List.mem_singleton.1 hx];exact⟨by show 0+n<=q.length;omega,by show q.length<=_;omega⟩) (by show paB _++(paB _++(paB _++[]))=_;rw[hp0 _ lr,hp0 _ hp,hq0,append_nil,List.append_assoc])
 rw[<-eK]at cH
 clear eK
 generalize vkB pub q sg=K at *
 unfold paS at cH
 have cB:=aaH
 have cM1:=λb hb=>aHI z ls b hb
 have cM2:=acI K lK o True _ ho.ps
 refine Cut.i (σ:=Unit) (λ_=>True) (λ_=>([(1,.isl 0 n 1 [(n,.a8 q)]),(3,.ptr 203 0 none),(7,.ptr 207 0 none),(9,.ptr 209 0 none),(10,.ptr 210 0 none)],
   [(203,.mem false 1 [(32,.a8 pub)]),(207,.mem true 0 [(5,.a64 o.x),(5,.a64 o.y),(5,.a64 o.z),(5,.a64 o.t),(1,.bool True)]),(209,.mem true 0 [(32,.a8 z)]),(210,.mem false 1 [(32,.a8 r)])])) () trivial hle ?_
 rintro - -
 refine aH.i [[],[],[],[0,1,2],r_4,[],r_6] [0,1,2,3,5,4,6] (by kernel_rfl) ?_
 refine gA ?_
 refine Call.name [(2001,[])] rfl ?_ (kW.i cH [(1003,(2001,0,none))] rfl ?_ rfl ?_ rfl ?_)
 ·exact fc
 ·exact fc
 ·repeat' first|exact trivial|refine zA.app ?_ ?_|refine zA.zd ?_ ?_|refine zA.cons ?_ ?_|exact fc|fail
  ·exact ul rfl lr
  ·exact ul rfl hp
  exact ul rfl hq
 rintro _ _ ⟨rfl,rfl⟩
 refine gN ?_
 refine gA ?_
 refine aH.i [[],[],[0,1],[],[],r_5,r_6,r_7,r_8,[],ek,fe] [0,3,4,9,1,2,5,6,7,8,10,11] (by kernel_rfl) ?_
 refine gA ?_
 refine Call.pure cB rfl fc ?_
 rintro v ⟨b,hb,rfl⟩
 obtain⟨b1,b2,b3,b4⟩:=hb.1.len
 have cM1:=cM1 b hb
 unfold ptV at cM1
 unfold ptV
 refine gA ?_
 refine Call.pure cM1 rfl fc ?_
 rintro v ⟨p,s1,hp1,rfl⟩
 obtain⟨p1,p2,p3,p4⟩:=hp1.1
 unfold ptV at cM2
 refine gA ?_
 refine Call.pure cM2 rfl fc ?_
 rintro v ⟨a,s2,ha,rfl⟩
 obtain⟨a1,a2,a3,a4⟩:=ha.1
 have cN:=aYI a s2 _ ha
 unfold ptV at cN
 refine gA ?_
 refine Call.pure cN rfl fc ?_
 rintro v ⟨c,hc,rfl⟩
 obtain⟨c1,c2,c3,c4⟩:=hc.1.len
 have cA:=abT p c s1 True _ _ hp1 hc.ps
 rw[<-eP]at cA
 unfold ptV at cA
 refine gA ?_
 refine Call.pure cA rfl fc ?_
 rintro v ⟨d,hd,rfl⟩
 obtain⟨d1,d2,d3,d4⟩:=hd.1.len
 have cE:=abU d True _ hd.ps
 rw[<-eE]at cE
 unfold ptV at cE
 generalize vrE pub K z=E at *
 refine gA ?_
 refine Call.pure cE rfl fc ?_
 intro v hv1
 subst hv1
 refine gA ?_
 refine Ret.i (.bool V) [] [] rfl ?_ rfl rfl ?_ rfl ?_ rfl
 ·exact fc
 ·repeat' first|exact trivial|refine zA.app ?_ ?_|refine zA.zd ?_ ?_|refine zA.cons ?_ ?_|exact fc|fail
  all_goals exact hv
 exact fc
theorem aFA (pub q sg:List UInt8) (n:Nat) (hp:pub.length=32) (hq:q.length=n) (hn:n<=4097) (hs:sg.length=64):Sx.Fn Γ.P 14 [.a8 pub,.isl 0 n 1 [(n,.a8 q)],.a8 sg] [] (λv _=>v= .bool (vrf pub q sg)):=by
 have cD:=abW pub hp
 have lr:(sg.take 32).length=32:=by rw[zlT,hs];rfl
 have ls:(sg.drop 32).length=32:=by rw[zlD,hs]
 have cR:=aWE (sg.drop 32) ls
 unfold aWI pt0 ptV at cD
 refine cV [5,7] (Γ:=Γ) (fn:=Tryz.f14) rfl rfl rfl rfl ?_
 refine gB ?_
 refine Call.pure cD rfl fc ?_
 rintro v (⟨hok,o,ho,rfl⟩|⟨hok,rfl⟩)
 ·obtain⟨o1,o2,o3,o4⟩:=ho.1.len
  refine gB ?_
  refine aH.i [[],[],[0,1]] [0,1,2] (by kernel_rfl) ?_
  refine gA ?_
  refine aH.i [[],[],[0,1]] [0,1,2] (by kernel_rfl) ?_
  refine gA ?_
  refine Cut.i (σ:=Unit) (λ_=>True) (λ_=>([(1,.isl 0 n 1 [(n,.a8 q)]),(3,.ptr 203 0 none),(7,.ptr 207 0 none),(8,.tt),(9,.ptr 209 0 none),(10,.ptr 210 0 none)],
   [(203,.mem true 0 [(32,.a8 pub)]),(207,.mem true 0 [(5,.a64 o.x),(5,.a64 o.y),(5,.a64 o.z),(5,.a64 o.t),(1,.bool True)]),(209,.mem true 0 [(32,.a8 (sg.drop 32))]),(210,.mem true 0 [(32,.a8 (sg.take 32))])])) () trivial
   (Le.i [(203,(3,0,none)),(207,(7,0,none)),(209,(9,0,none)),(210,(10,0,none))] rfl ?_ rfl ?_ rfl) ?_
  ·exact fc
  ·repeat' first|exact trivial|refine zA.app ?_ ?_|refine zA.zd ?_ ?_|refine zA.cons ?_ ?_|exact fc|fail
   ·have e:take 32 (drop 32 sg)=drop 32 sg:=take_of_length_le (by omega)
    show sg.drop 32=take 0 (replicate 32 (0:UInt8))++take (min (take 32 (drop 32 sg)).length 32) (take 32 (drop 32 sg))++drop (0+min (take 32 (drop 32 sg)).length 32) (replicate 32 0)
    rw[e,ls];exact(aaS ls).symm
   show sg.take 32=take 0 (replicate 32 (0:UInt8))++take (min (take 32 (drop 0 sg)).length 32) (take 32 (drop 0 sg))++drop (0+min (take 32 (drop 0 sg)).length 32) (replicate 32 0)
   rw[drop_zero,lr];exact(aaS lr).symm
  rintro - -
  refine gB ?_
  refine Call.pure cR rfl fc ?_
  rintro _ rfl
  refine gB ?_
  refine zB.i ?_ ?_<;>intro h
  ·have h:¬sf (sg.drop 32)=sg.drop 32:=h
   refine gB ?_
   refine Ret.i (.bool (vrf pub q sg)) [] [] rfl ?_ rfl rfl ?_ rfl ?_ rfl
   ·exact fc
   ·repeat' first|exact trivial|refine zA.app ?_ ?_|refine zA.zd ?_ ?_|refine zA.cons ?_ ?_|exact fc|fail
    all_goals exact(λe=>h e.2.1)
   exact fc
  have h:sf (sg.drop 32)=sg.drop 32:=Classical.not_not.1 h
  refine aJO pub q sg n hp hq hn hs hok h o ho _ _ (Le.ghost [.keep 203,.keep 210] [] [] rfl fc rfl rfl fc rfl fc rfl)
 refine gB ?_
 refine aH.i [[],[],[0,1]] [0,1,2] (by kernel_rfl) ?_
 refine gA ?_
 refine aH.i [[],[],[0,1]] [0,1,2] (by kernel_rfl) ?_
 refine gA ?_
 refine Cut.i (σ:=Unit) (λ_=>True) (λ_=>([(8,.ff)],[])) () trivial (Le.i [] rfl fc rfl fc rfl) ?_
 rintro - -
 refine gB ?_
 refine Ret.i (.bool (vrf pub q sg)) [] [] rfl ?_ rfl rfl ?_ rfl ?_ rfl
 ·exact fc
 ·repeat' first|exact trivial|refine zA.app ?_ ?_|refine zA.zd ?_ ?_|refine zA.cons ?_ ?_|exact fc|fail
  all_goals exact(λh=>hok h.1)
 exact fc
end Go.Proofs.YtieblfbmmbkjdaaGreat
namespace Go.Proofs.YtieblfbmmbkjdaaGreat
open Go Go.Sx
theorem zk {a b:List UInt8} (ha:a.length=32) (hb:b.length=32) (h:bv a 32=bv b 32):a=b:=
 vi ha hb λi hi=>by rw[<-ta a hi,<-ta b hi,h]
theorem aVK {w:List UInt64}:bv (xN w 32) 32=wv w 4:=by
 unfold bv
 rw[dt (by decide) (W:=wv w 4) λi hi=>aFL w hi]
 have h:=wS w 4
 exact mod_eq_of_lt (by rw[show(256:Nat)^32=18446744073709551616^4 by decide];exact h)
theorem bR (b:List UInt8):bv (sf b) 32=bv b b.length%Ln:=by rw[<-aE7,aVK,mg]
theorem zm {d:List Int} (h:Dig d) {W:Nat} (hW:dv d 16=(W:Int)):bv (byS d 16) 32=W%256^32:=dt (by decide) λi hi=>aOK h hW hi
theorem bM (a b c:List UInt8):bv (aQM a b c) 32=(bv c 32+bv a 32*bv b 32)%Ln:=by
 rw[sh]
 have da:=(dC a 32).1
 have db:=(dC b 32).1
 have dc:=(dC c 32).1
 rw[zm (iH (kD da db dc 16) _ _) (W:=(bv c 32+bv a 32*bv b 32)%Ln)]
 ·refine mod_eq_of_lt (Nat.lt_trans (mod_lt _ (by decide)) (by decide))
 rw[aF5 (kD da db dc 16),ph da db dc 16 (le_refl _)]
 have ea:=jA a 32
 have eb:=jA b 32
 have ec:=jA c 32
 rw[show(32+1)/2=16 from rfl]at ea eb ec
 rw[ea,eb,ec]
 rfl
end Go.Proofs.YtieblfbmmbkjdaaGreat
namespace Go.Proofs.YtieblfbmmbkjdaaGreat
open Go Go.Sx Go.Cu
theorem vZ {b:List UInt8} (h:b.length=32):bv b 32=lv b:=by
 have hl:=aGL b
 rw[h]at hl
 unfold bv
 rw[dt (by decide) (W:=lv b) (f:=by_ b) λi _=>(uy b i).symm,mod_eq_of_lt hl]
theorem w5 {a b c:List UInt8} (ha:a.length=32) (hb:b.length=32) (hc:c.length=32):lv (aQM a b c)=(lv c+lv a*lv b)%Ln:=by
 rw[<-vZ (dN a b c),bM,vZ ha,vZ hb,vZ hc]
theorem sj (a b c:List UInt8):sf (aQM a b c)=aQM a b c:=by
 refine zk (fQ _) (dN _ _ _) ?_
 rw[bR,dN,bM,Nat.mod_mod]
def smT (s t:F×F×F):F×F×F:=
 let z:=s.2.2*t.2.2;let zz:=z*z;let xv:=s.1*t.1;let yw:=s.2.1*t.2.1;let xw:=s.1*t.2.1+s.2.1*t.1;let e:=dF*(xv*yw)
 (z*(zz-e)*xw,z*(zz+e)*(yw+xv),(zz+e)*(zz-e))
theorem aEJ {s t:F×F×F} {P Q:Pt} (h:Rep s.1 s.2.1 s.2.2 P) (k:Rep t.1 t.2.1 t.2.2 Q):Rep (smT s t).1 (smT s t).2.1 (smT s t).2.2 (P.add Q):=
 aE5 h k rfl rfl rfl rfl rfl rfl rfl rfl
def mlT (n:Nat):Nat->F×F×F
 |0=>(0,1,1)
 |k+1=>if n/2^(252-k)%2=1 then smT (smT (mlT n k) (mlT n k)) (aVQ,aR0,1)else smT (mlT n k) (mlT n k)
theorem aF6 {n:Nat} (hn:n<2^253):∀k,k<=253->Rep (mlT n k).1 (mlT n k).2.1 (mlT n k).2.2 (basP.mul (n/2^(253-k)))
 |0,_=>by rw[Nat.div_eq_of_lt hn];exact aPR
 |k+1,h=>by
  have ih:=aF6 hn k (by omega)
  have d:=aEJ ih ih
  rw[Pt.mul_dbl]at d
  have e:=Pt.mul_top basP n (252-k)
  rw[show 252-k+1=253-k by omega]at e
  rw[show 253-(k+1)=252-k by omega,e]
  show Rep (ite _ _ _:F×F×F).1 (ite _ _ _:F×F×F).2.1 (ite _ _ _:F×F×F).2.2 _
  by_cases hb:n/2^(252-k)%2=1
  ·rw[if_pos hb,if_pos hb]
   exact aEJ (t:=(aVQ,aR0,1)) d ⟨aFP,by show aVQ=aVQ*1;exact gr,by show aR0=aR0*1;exact gr⟩
  rw[if_neg hb,if_neg hb];exact d
theorem zU:(mlT Ln 253).1 = 0/\(mlT Ln 253).2.1 = (mlT Ln 253).2.2:=by decide +kernel
theorem aXA:basP.mul Ln= .O:=by
 have h:=aF6 (n:=Ln) (by decide +kernel) 253 (le_refl _)
 rw[Nat.sub_self,Nat.pow_zero,Nat.div_one]at h
 have hx:=aPP h
 have hy:=aPO h
 rw[zU.1]at hx
 rw[zU.2]at hy
 have hz:=h.1
 refine Pt.ext' ?_ ?_
 ·rw[<-hx];show 0*_=(0:F);exact gr
 rw[<-hy];exact iv hz
theorem mul_mod (n:Nat):basP.mul (n%Ln)=basP.mul n:=by
 have e:=Nat.div_add_mod n Ln
 have h:basP.mul n=(basP.mul (Ln*(n/Ln))).add (basP.mul (n%Ln)):=by rw[<-Pt.mul_add,e]
 rw[h,Pt.mul_mul,aXA,aVY,Pt.O_add]
theorem uE (s q:List UInt8):vrf (spB s) q (sgB s q):=by
 have lE:=dS (rrB s q)
 have t1:(sgB s q).take 32=qm (rrB s q):=by rw[uN];exact List.take_left' lE
 have t2:(sgB s q).drop 32=ssB s q:=by rw[uN];exact List.drop_left' lE
 have e:spB s=rD (pS (nuB s)):=by rw[ym,qM]
 obtain⟨d1,d2⟩:=yA (pS (nuB s))
 unfold vrf
 rw[t1,t2]
 refine⟨by rw[e];exact d1,by rw[uH];exact sj _ _ _,?_⟩
 have hk:vkB (spB s) q (sgB s q)=kkB s q:=by rw[aDX,zw,t1]
 rw[hk,aDW,aMZ,qM]
 congr 1
 rw[e,d2,kq,kq,kq,uH,w5 (mt s q) (fI s) (mU s q),mul_mod,Pt.mul_add,mul_comm,Pt.mul_mul,Pt.add_assoc,Pt.add_ng,Pt.add_O]
end Go.Proofs.YtieblfbmmbkjdaaGreat
namespace Go.Proofs.YtieblfbmmbkjdaaGreat
open Go Go.Sx Go.Cu
theorem lnA:IsP 1257559732178653:=pk2 1224481 531581 (pk1 2551 (small 51 (by decide) (by decide) (by decide +kernel)) (by decide) (by decide +kernel) (by decide +kernel) (by decide +kernel)) (small 730 (by decide) (by decide) (by decide +kernel)) (by decide +kernel) (by decide) (by decide +kernel) (by decide +kernel) (by decide +kernel) (by decide +kernel)
theorem lnB:IsP 4434155615661930479:=pk1 1257559732178653 lnA (by decide) (by decide +kernel) (by decide +kernel) (by decide +kernel)
theorem lnC:IsP 172054593956031949258510691:=pk1 4434155615661930479 lnB (by decide) (by decide +kernel) (by decide +kernel) (by decide +kernel)
theorem lnD:IsP 19757330305831588566944191468367130476339:=pk1 172054593956031949258510691 lnC (by decide) (by decide +kernel) (by decide +kernel) (by decide +kernel)
theorem lnE:IsP 276602624281642239937218680557139826668747:=pk1 19757330305831588566944191468367130476339 lnD (by decide) (by decide +kernel) (by decide +kernel) (by decide +kernel)
theorem lnP:IsP Ln:=pk1 276602624281642239937218680557139826668747 lnE (by decide +kernel) (by decide +kernel) (by decide +kernel) (by decide +kernel)
theorem wk (P:Pt):∀a b,P.mul a= .O->P.mul b= .O->P.mul (Nat.gcd a b)= .O:=by
 intro a b
 induction a,b using Nat.gcd.induction with
 |H0 b=>intro _ h;rw[Nat.gcd_zero_left];exact h
 |H1 a b ha ih=>
  intro h1 h2
  rw[Nat.gcd_rec]
  refine ih ?_ h1
  have e:=Nat.div_add_mod b a
  rw[<-e,Pt.mul_add,Pt.mul_mul,h1,aVY,Pt.O_add]at h2
  exact h2
theorem wH {k:Nat} (h:¬Ln∣k):basP.mul k≠ .O:=by
 intro e
 have g:=wk basP k Ln e aXA
 rcases lnP.2 (Nat.gcd k Ln) (Nat.gcd_dvd_right k Ln)with h1|h1
 ·rw[h1,Pt.mul_one]at g
  have:basP.x=0:=by rw[g];rfl
  exact absurd this (by decide +kernel)
 exact h (h1▸Nat.gcd_dvd_left k Ln)
theorem pZ {k:Nat} (h:¬Ln∣k):uF (basP.mul k)≠0:=by
 intro e
 rcases yJ e with h1|h1
 ·exact wH h h1
 rw[Pt.mul_dbl]at h1
 have:¬Ln∣2*k:=by
  intro hd
  rcases lnP.euclid hd with h2|h2
  ·exact absurd (Nat.le_of_dvd (by decide) h2) (by decide +kernel)
  exact h h2
 exact wH this h1
theorem yx {n:Nat} (h1:2^254<=n) (h2:n<2^255) (h3:n%8=0):¬Ln∣n:=by
 rintro⟨c,e⟩
 have h8:c<8:=by
  rcases Nat.lt_or_ge c 8 with h|h
  ·exact h
  have:Ln*8<=Ln*c:=Nat.mul_le_mul_left _ h
  rw[<-e]at this
  exact absurd (Nat.lt_of_le_of_lt this h2) (by decide +kernel)
 have:∀ c:Fin 8,¬ (2 ^ 254 <= Ln * c.val/\Ln * c.val % 8 = 0):=by decide +kernel
 exact this ⟨c,h8⟩ ⟨e▸h1,e▸h3⟩
theorem zI {n m:Nat} (n1:2^254<=n) (n2:n<2^255) (n3:n%8=0) (m1:2^254<=m) (m2:m<2^255) (m3:m%8=0):xA (xA 9 m) n≠0:=by
 have h9:(9:F)≠0:=by decide
 have hm:=yx m1 m2 m3
 have hn:=yx n1 n2 n3
 have h1:=pZ hm
 rw[oW aCF h9 m2,oW (aEB h1) h1 n2,<-Pt.mul_mul]
 refine pZ λhd=>?_
 rcases lnP.euclid hd with h2|h2
 ·exact hm h2
 exact hn h2
theorem xe:∀x:UInt8,(x&&&ofNat 248).toNat%8=0:=by
 intro x
 have:∀ y:Fin 256,(ofNat y.val &&& ofNat 248).toNat % 8 = 0:=by decide +kernel
 have h:=this ⟨x.toNat,x.toNat_lt⟩
 rw[UInt8.ofNat_toNat]at h;exact h
theorem xo:∀x:UInt8,64<=((x&&&ofNat 127)|||ofNat 64).toNat:=by
 intro x
 have:∀ y:Fin 256,64 <= ((ofNat y.val &&& ofNat 127) ||| ofNat 64).toNat:=by decide +kernel
 have h:=this ⟨x.toNat,x.toNat_lt⟩
 rw[UInt8.ofNat_toNat]at h;exact h
theorem pR {b:List UInt8} (h:b.length=32):2^254<=lv (clB b)/\lv (clB b)%8=0:=by
 have hl:=aCN b
 rw[h]at hl
 have g0:(clB b).getD 0 0=b.getD 0 0&&&ofNat 248:=by
  unfold clB
  rw[getD_eq_getElem?_getD,List.getElem?_set_ne (by omega),List.getElem?_set_self (by omega)];rfl
 have g31:(clB b).getD 31 0=((b.set 0 (b.getD 0 0&&&ofNat 248)).getD 31 0&&&ofNat 127)|||ofNat 64:=by
  unfold clB
  rw[getD_eq_getElem?_getD,List.getElem?_set_self (by rw[length_set];omega)];rfl
 have e0:=uy (clB b) 0
 have e31:=uy (clB b) 31
 have hlt:=aGL (clB b)
 rw[hl]at hlt
 rw[g0,Nat.pow_zero,Nat.div_one]at e0
 rw[g31]at e31
 have k0:=xe (b.getD 0 0)
 have k31:=xo ((b.set 0 (b.getD 0 0&&&ofNat 248)).getD 31 0)
 rw[<-e0]at k0
 rw[<-e31]at k31
 generalize lv (clB b)=n at *
 clear g0 g31 e0 e31 hl
 refine⟨?_,by omega⟩
 have hlt:n<115792089237316195423570985008687907853269984665640564039457584007913129639936:=hlt
 have k31:64<=n/452312848583266388373324160190187140051835877600158453279131187530910662656%256:=k31
 show 28948022309329048855892746252171976963317496166410141009864396001978282409984<=n
 omega
theorem xB {a b:List UInt8} (ha:a.length=32) (hb:b.length=32):jG (clB a) (jG (clB b) (ofNat 9::replicate 31 0))≠replicate 32 0:=by
 obtain⟨a1,_⟩:=tU ha
 obtain⟨a2,a3⟩:=pR ha
 obtain⟨b1,_⟩:=tU hb
 obtain⟨b2,b3⟩:=pR hb
 have h9:ofF (ofNat 9 :: replicate 31 0) = 9:=by decide +kernel
 intro e
 unfold jG at e
 rw[aP1,h9]at e
 have e2:=congrArg ofF e
 rw[aP1]at e2
 have z:ofF (replicate 32 0) = 0:=by decide +kernel
 rw[z]at e2
 exact zI a2 a1 a3 b2 b1 b3 e2
end Go.Proofs.YtieblfbmmbkjdaaGreat
