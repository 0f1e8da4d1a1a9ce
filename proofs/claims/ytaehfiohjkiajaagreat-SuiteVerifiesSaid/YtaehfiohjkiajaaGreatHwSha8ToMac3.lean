/- Walks. -/
import Derived.Test.YtaehfiohjkiajaaGreatHwCbc2ToSha7
set_option linter.unusedSimpArgs false
set_option linter.unusedVariables false
set_option maxHeartbeats 4000000
open UInt64 (ofNat ofInt)
open List (replicate take length_replicate length_set take_of_length_le drop_zero nil_append drop_append)
open Nat (zero_le zero_add le_refl)
open Option (getD_none)
set_option maxRecDepth 100000
namespace Go.Proofs.YtaehfiohjkiajaaGreat
open Go Go.Sx
@[irreducible] def H64:List UInt64:=[ofNat 7640891576956012808,ofNat 13503953896175478587,ofNat 4354685564936845355,ofNat 11912009170470909681,ofNat 5840696475078001361,ofNat 11170449401992604703,ofNat 2270897969802886507,ofNat 6620516959819538809]
theorem aI8:H64=[ofNat 7640891576956012808,ofNat 13503953896175478587,ofNat 4354685564936845355,ofNat 11912009170470909681,ofNat 5840696475078001361,ofNat 11170449401992604703,ofNat 2270897969802886507,ofNat 6620516959819538809]:=by unfold H64;rfl
theorem sJ:H64.length=8:=by rw[aI8];rfl
def ao (h:List UInt64) (b:List UInt8):Nat->List UInt64
 |0=>h
 |q+1=>tc (ao h b q) ((b.drop (128*q)).take 128)
theorem dE {h:List UInt64} (hh:h.length=8) (b:List UInt8):∀q,(ao h b q).length=8
 |0=>hh
 |q+1=>vm (dE hh b q) _
def aw (r:Nat):Nat:=(239-r)%128
def il (w:List UInt64):Nat->List UInt8
 |0=>replicate 64 0
 |i+1=>(il w i).set i (aF (w.getD (i/8) 0) (56-i%8*8)).toUInt8
def gR (R:List UInt8) (n:UInt64):List UInt8:=qk (qi R (aw R.length)++replicate 8 0) n 8
theorem sP (R:List UInt8) (n:UInt64):(gR R n).length=R.length+1+aw R.length+16:=by
 unfold gR;rw[iL,zlA,iB,length_replicate]
theorem iC (w:List UInt64):∀i,(il w i).length=64
 |0=>length_replicate
 |i+1=>by simp only[il,length_set,iC w i]
@[irreducible] def ae (b:List UInt8):List UInt8:=
 il (ao (ao H64 b (b.length/128)) (gR (b.drop (128*(b.length/128))) (ofInt (b.length:Int))) ((gR (b.drop (128*(b.length/128))) (ofInt (b.length:Int))).length/128)) 64
theorem oo (b:List UInt8):ae b=
 il (ao (ao H64 b (b.length/128)) (gR (b.drop (128*(b.length/128))) (ofInt (b.length:Int))) ((gR (b.drop (128*(b.length/128))) (ofInt (b.length:Int))).length/128)) 64:=by unfold ae;rfl
theorem aW (b:List UInt8):(ae b).length=64:=by rw[oo];exact iC _ _
theorem aZ7 (b:List UInt8) (m:Nat) (hb:b.length=m) (hmax:m<=100000000):Sx.Fn Γ.P 76 [.slx 1002 0 0 m] [(1002,.mem false 0 [(m,.a8 b)])]
  (λv M=>v= .a8 (ae b)/\M=[(1002,.mem false 0 [(m,.a8 b)])]):=by
 have hH:=aI8;refine aG (Γ:=Γ) (fn:=Tryz.f76) rfl rfl rfl rfl ?_;obtain⟨n,hn⟩:∃x,ofInt (m:Int)=x:=⟨_,rfl⟩;refine gB ?_
 refine aY.i (σ:=Nat) (λq=>q<=m/128)
  (λq=>([(0,.slx 1002 0 (128*q) (m-128*q)),(2,.ptr 2 0 none),(3,.ptr 3 0 none),(4,.u64 n)],
   [(1002,.mem false 0 [(m,.a8 b)]),(2,.mem true 0 [(64,.a8 (replicate 64 0))]),(3,.mem true 0 [(8,.a64 (ao H64 b q))])])) (λq=>m/128-q) 0 (zero_le _) ?_ ?_
 .have hn':=hn.symm
  clear hn;refine Le.i [] rfl ?_ rfl ?_ rfl
  .exact fc
  have e0:ao H64 b 0=H64:=rfl
  repeat' first|exact trivial|refine zA.app ?_ ?_|refine zA.zd ?_ ?_|refine zA.cons ?_ ?_|exact fc|fail
  all_goals exact hH
 rintro q hq;have hbl:=dE sJ b q;refine zB.i ?_ ?_<;>intro hb1
 .have hb1:((m-128*q:Nat):Int)≥128:=hb1
  refine gB ?_;have hB:=rB (ao H64 b q) ((b.drop (128*q)).take 128) hbl (by simp only[zlT,zlD];omega);refine Call.i hB [(1000,(3,0,none)),(1001,(1002,0,some (128*q)))] rfl fc rfl fc rfl ?_;rintro _ _ ⟨rfl,rfl⟩;refine gB ?_;have e1:128*q+128=128*(q+1):=by omega
  have e2:m-128*q-128=m-128*(q+1):=by omega
  refine⟨q+1,by omega,by omega,Le.i [] rfl fc rfl fc rfl⟩
 obtain rfl:q=m/128:=by have hb1:¬((m-128*q:Nat):Int)≥128:=hb1;omega
 obtain⟨h,hh⟩:∃x,ao H64 b (m/128)=x:=⟨_,rfl⟩;rw[hh]at hbl;obtain⟨i,hi⟩:∃x,128*(m/128)=x:=⟨_,rfl⟩;obtain⟨r,hr⟩:∃x,m-i=x:=⟨_,rfl⟩;obtain⟨R,hR⟩:∃x,b.drop i=x:=⟨_,rfl⟩;have hRl:R.length=r:=by rw[<-hR,zlD];omega
 have hr128:r<128:=by omega
 have htk:take r (List.drop i b)=R:=by rw[hR,take_of_length_le (by omega)]
 have hsum0:ae b=il (ao h (gR R n) ((gR R n).length/128)) 64:=by
  rw[oo,hb,hi,hR,hn,hh]
 refine gB ?_;intro c1 hc1;refine gB ?_;intro c2 hc2;refine gB ?_
 refine aY.i (σ:=Nat×Nat) (λs=>s.1<=aw r/\r+1+s.1<=s.2)
  (λs=>([(2,.ptr 2 0 none),(3,.ptr 3 0 none),(4,.u64 n),(5,.sl 200 0 0 (r+1+s.1) s.2)],
   [(1002,.mem false 0 [(m,.a8 b)]),(2,.mem true 0 [(64,.a8 (replicate 64 0))]),(3,.mem true 0 [(8,.a64 h)]),(200,.mem true (s.2-(r+1+s.1)) [(r+1+s.1,.a8 (qi R s.1))])])) (λs=>aw r-s.1) (0,c2) ⟨zero_le _,by have:(Ix.lit 0).val+(m-128*(m/128))+1<=c2:=hc2;show r+1+0<=c2;have e:(Ix.lit 0).val=0:=rfl;omega⟩ ?_ ?_
 .refine Le.i [(200,(25,0,none))] rfl ?_ rfl ?_ rfl
  .exact fc
  have hh':=hh.symm;clear hh hR
  repeat' first|exact trivial|refine zA.app ?_ ?_|refine zA.zd ?_ ?_|refine zA.cons ?_ ?_|exact fc|fail
  all_goals(show qi R 0=[]++take (m-128*(m/128)) (List.drop (128*(m/128)) b)++[128];rw[hi,hr,htk];simp[qi])
 rintro⟨j,c⟩ ⟨hj,hc⟩;have hj:j<=aw r:=hj;have hc:r+1+j<=c:=hc;have hpl:=iB R j;rw[hRl]at hpl;have hz:aw r=(239-r)%128:=rfl;refine gB ?_;refine zB.i ?_ ?_<;>intro hb1
 .have hb1:¬((r+1+j:Nat):Int)%128=112:=hb1
  have hlt:j<aw r:=by omega
  refine gB ?_;intro c' hc';refine gB ?_;have hp1:=pL R j;refine⟨(j+1,c'),⟨hlt,by show r+1+(j+1)<=c';have:r+1+j+1<=c':=hc';omega⟩,by show aw r-(j+1)<aw r-j;omega,Le.i [(200,(32,0,none))] rfl fc rfl fc rfl⟩
 have hb1:¬¬((r+1+j:Nat):Int)%128=112:=hb1;obtain rfl:j=aw r:=by omega
 obtain⟨T0,hT0⟩:∃x,qi R (aw r)=x:=⟨_,rfl⟩;rw[hT0]at hpl;obtain⟨L0,hL0⟩:∃x,r+1+aw r=x:=⟨_,rfl⟩;rw[hL0]at hpl hc;have hL1:L0=112\/L0=240:=by omega
 have hT0':T0++replicate 8 0=qi R (aw r)++replicate 8 0:=by rw[hT0]
 have htail:gR R n=qk (T0++replicate 8 0) n 8:=by unfold gR;rw[hRl,hT0]
 obtain⟨T1,hT1⟩:∃x,T0++replicate 8 0=x:=⟨_,rfl⟩;rw[hT1]at htail hT0';have hT1l:T1.length=L0+8:=by rw[<-hT1,zlA,hpl,length_replicate]
 clear hT0 hT1;refine gB ?_;intro c3 hc3;refine gB ?_
 refine aY.i (σ:=Nat×Nat) (λs=>s.1<=8/\L0+8+s.1<=s.2)
  (λs=>([(2,.ptr 2 0 none),(3,.ptr 3 0 none),(4,.u64 n),(5,.sl 200 0 0 (L0+8+s.1) s.2),(6,.i .i64 (7-(s.1:Int)))],
   [(1002,.mem false 0 [(m,.a8 b)]),(2,.mem true 0 [(64,.a8 (replicate 64 0))]),(3,.mem true 0 [(8,.a64 h)]),(200,.mem true (s.2-(L0+8+s.1)) [(L0+8+s.1,.a8 (qk T1 n s.1))])])) (λs=>8-s.1) (0,c3) ⟨zero_le _,by have:r+1+aw r+Int.toNat 8<=c3:=hc3;show L0+8+0<=c3;have e:Int.toNat 8=8:=rfl;omega⟩ ?_ ?_
 .have hL0':=hL0.symm
  clear hL0;refine Le.i [(200,(34,0,none))] rfl ?_ rfl ?_ rfl
  .exact fc
  have e0:qk T1 n 0=T1:=rfl
  repeat' first|exact trivial|refine zA.app ?_ ?_|refine zA.zd ?_ ?_|refine zA.cons ?_ ?_|exact fc|fail
  all_goals exact hT0'
 rintro⟨k,c⟩ ⟨hk,hc⟩;have hk:k<=8:=hk;have hc:L0+8+k<=c:=hc;have hll:=iL T1 n k;rw[hT1l]at hll;refine zB.i ?_ ?_<;>intro hb2
 .have hb2:(7-(k:Int))≥0:=hb2
  refine gB ?_;intro c' hc';refine gB ?_;have e7:(8*(7-(k:Int))).toNat=8*(7-k):=by omega
  refine⟨(k+1,c'),⟨by show k+1<=8;omega,by show L0+8+(k+1)<=c';have:L0+8+k+1<=c':=hc';omega⟩,by show 8-(k+1)<8-k;omega,Le.i [(200,(47,0,none))] rfl ?_ rfl ?_ rfl⟩
  .exact fc
  repeat' first|exact trivial|refine zA.app ?_ ?_|refine zA.zd ?_ ?_|refine zA.cons ?_ ?_|exact fc|fail
  show qk T1 n (k+1)=qk T1 n k++[(aF (aQ n 3) (8*(7-(k:Int))).toNat).toUInt8];rw[e7];rfl
 obtain rfl:k=8:=by have hb2:¬(7-(k:Int))≥0:=hb2;omega
 obtain⟨T,hT⟩:∃x,qk T1 n 8=x:=⟨_,rfl⟩;obtain⟨L,hL⟩:∃x,L0+8+8=x:=⟨_,rfl⟩;rw[hT,hL]at hll;rw[hL]at hc;rw[hT]at htail;have hT':=hT.symm;have hsum:ae b=il (ao h T (L/128)) 64:=by rw[hsum0,htail,hll]
 clear hsum0
 refine aY.i (σ:=Nat) (λq=>q<=L/128)
  (λq=>([(2,.ptr 2 0 none),(3,.ptr 3 0 none),(5,.sl 200 0 (128*q) (L-128*q) (c-128*q))],
   [(1002,.mem false 0 [(m,.a8 b)]),(2,.mem true 0 [(64,.a8 (replicate 64 0))]),(3,.mem true 0 [(8,.a64 (ao h T q))]),(200,.mem true (c-L) [(L,.a8 T)])])) (λq=>L/128-q) 0 (zero_le _) ?_ ?_
 .clear hT
  refine Le.i [] rfl ?_ rfl ?_ rfl
  .exact fc
  have e0:ao h T 0=h:=rfl
  repeat' first|exact trivial|refine zA.app ?_ ?_|refine zA.zd ?_ ?_|refine zA.cons ?_ ?_|exact fc|fail
  all_goals exact hT'
 clear hT';rintro q hq;have hbl2:=dE hbl T q;refine zB.i ?_ ?_<;>intro hb3
 .have hb3:((L-128*q:Nat):Int)>0:=hb3
  have hq64:128*q+128<=L:=by omega
  refine gB ?_;have hB:=rB (ao h T q) ((T.drop (128*q)).take 128) hbl2 (by simp only[zlT,zlD];omega);refine Call.i hB [(1000,(3,0,none)),(1001,(200,0,some (128*q)))] rfl fc rfl fc rfl ?_;rintro _ _ ⟨rfl,rfl⟩;refine gB ?_;have e1:128*q+128=128*(q+1):=by omega
  have e2:L-128*q-128=L-128*(q+1):=by omega
  have e3:c-128*q-128=c-128*(q+1):=by omega
  refine⟨q+1,by omega,by omega,Le.i [] rfl fc rfl fc rfl⟩
 obtain rfl:q=L/128:=by have hb3:¬((L-128*q:Nat):Int)>0:=hb3;omega
 obtain⟨W,hW⟩:∃x,ao h T (L/128)=x:=⟨_,rfl⟩;rw[hW]at hbl2 hsum;have hW':=hW.symm;refine gB ?_
 refine aY.i (σ:=Nat) (λj=>j<=64)
  (λj=>([(2,.ptr 2 0 none),(3,.ptr 3 0 none),(7,.ptr 7 0 none),(56,.i .i64 j)],
   [(1002,.mem false 0 [(m,.a8 b)]),(2,.mem true 0 [(64,.a8 (replicate 64 0))]),(3,.mem true 0 [(8,.a64 W)]),(7,.mem true 0 [(64,.a8 (il W j))])])) (λj=>64-j) 0 (zero_le _) ?_ ?_
 .clear hW
  refine Le.i [] rfl fc rfl fc rfl
 clear hW';rintro j hj;have hol:=iC W j;refine zB.i ?_ ?_<;>intro hb4
 .have hb4:(j:Int)<64:=hb4
  have ed:((j:Int)/8).toNat=j/8:=by omega
  have es:(56-(j:Int)%8*8).toNat=56-j%8*8:=by omega
  refine gB ?_;refine⟨j+1,by omega,by omega,Le.i [] rfl fc rfl ?_ rfl⟩
  repeat' first|exact trivial|refine zA.app ?_ ?_|refine zA.zd ?_ ?_|refine zA.cons ?_ ?_|exact fc|fail
  all_goals simp only[ed,es,zero_add,zQ,Ix.val,zIn,il]
 obtain rfl:j=64:=by have hb4:¬(j:Int)<64:=hb4;omega
 refine gB ?_;rw[hsum];refine Ret.i (.a8 (il W 64)) [(1002,.mem false 0 [(m,.a8 b)])] [] rfl fc ⟨rfl,rfl⟩ rfl fc rfl fc rfl
@[irreducible] def F64:List UInt64:=[ofNat 7640891576956012808,ofNat 13503953896175478587,ofNat 4354685564936845355,ofNat 11912009170470909681,ofNat 5840696475078001361,ofNat 11170449401992604703,ofNat 2270897969802886507,ofNat 6620516959819538809]
theorem aI9:F64=[ofNat 7640891576956012808,ofNat 13503953896175478587,ofNat 4354685564936845355,ofNat 11912009170470909681,ofNat 5840696475078001361,ofNat 11170449401992604703,ofNat 2270897969802886507,ofNat 6620516959819538809]:=by unfold F64;rfl
theorem aDD:F64.length=8:=by rw[aI9];rfl
abbrev kq2:List UInt64:=[ofNat 4794697086780616226,ofNat 8158064640168781261,ofNat 13096744586834688815,ofNat 16840607885511220156,ofNat 4131703408338449720,ofNat 6480981068601479193,ofNat 10538285296894168987,ofNat 12329834152419229976,ofNat 15566598209576043074,ofNat 1334009975649890238,ofNat 2608012711638119052,ofNat 6128411473006802146,ofNat 8268148722764581231,ofNat 9286055187155687089,ofNat 11230858885718282805,ofNat 13951009754708518548,ofNat 16472876342353939154,ofNat 17275323862435702243,ofNat 1135362057144423861,ofNat 2597628984639134821,ofNat 3308224258029322869,ofNat 5365058923640841347,ofNat 6679025012923562964,ofNat 8573033837759648693,ofNat 10970295158949994411,ofNat 12119686244451234320,ofNat 12683024718118986047,ofNat 13788192230050041572,ofNat 14330467153632333762,ofNat 15395433587784984357,ofNat 489312712824947311,ofNat 1452737877330783856,ofNat 2861767655752347644,ofNat 3322285676063803686,ofNat 5560940570517711597,ofNat 5996557281743188959,ofNat 7280758554555802590,ofNat 8532644243296465576,ofNat 9350256976987008742,ofNat 10552545826968843579,ofNat 11727347734174303076,ofNat 12113106623233404929,ofNat 14000437183269869457,ofNat 14369950271660146224,ofNat 15101387698204529176,ofNat 15463397548674623760,ofNat 17586052441742319658,ofNat 1182934255886127544,ofNat 1847814050463011016,ofNat 2177327727835720531,ofNat 2830643537854262169,ofNat 3796741975233480872,ofNat 4115178125766777443,ofNat 5681478168544905931,ofNat 6601373596472566643,ofNat 7507060721942968483,ofNat 8399075790359081724,ofNat 8693463985226723168,ofNat 9568029438360202098,ofNat 10144078919501101548,ofNat 10430055236837252648,ofNat 11840083180663258601,ofNat 13761210420658862357,ofNat 14299343276471374635,ofNat 14566680578165727644,ofNat 15097957966210449927,ofNat 16922976911328602910,ofNat 17689382322260857208,ofNat 500013540394364858,ofNat 748580250866718886,ofNat 1242879168328830382,ofNat 1977374033974150939,ofNat 2944078676154940804,ofNat 3659926193048069267,ofNat 4368137639120453308,ofNat 4836135668995329356,ofNat 5532061633213252278,ofNat 6448918945643986474,ofNat 6902733635092675308,ofNat 7801388544844847127]
@[irreducible] def R64:List UInt64:=kq2
theorem aI6:R64=kq2:=by unfold R64;rfl
theorem aC9:R64.length=80:=by rw[aI6];rfl
@[irreducible] def S64:List UInt64:=[ofNat 28,ofNat 34,ofNat 39,ofNat 14,ofNat 18,ofNat 41,ofNat 1,ofNat 8,ofNat 7,ofNat 19,ofNat 61,ofNat 6]
theorem aI5:S64=[ofNat 28,ofNat 34,ofNat 39,ofNat 14,ofNat 18,ofNat 41,ofNat 1,ofNat 8,ofNat 7,ofNat 19,ofNat 61,ofNat 6]:=by unfold S64;rfl
theorem aC8:S64.length=12:=by rw[aI5];rfl
def tn (x n sz:UInt64):UInt64:=
 if sz=32 then(aF x n.toNat|||aQ x (32-n).toNat)&&&ofNat 4294967295 else aF x n.toNat|||aQ x (64-n).toNat
def thS (x a b c sz:UInt64):UInt64:=tn x a sz^^^tn x b sz^^^aF x c.toNat
def thT (x a b c sz:UInt64):UInt64:=tn x a sz^^^tn x b sz^^^tn x c sz
theorem aQQ (x n sz:UInt64):Sx.Fn Γ.P 149 [.u64 x,.u64 n,.u64 sz] [] (λv _=>v= .u64 (tn x n sz)):=by
 refine aG (Γ:=Γ) (fn:=Tryz.f149) rfl rfl rfl rfl ?_;refine zB.i ?_ ?_<;>intro h
 .refine Ret.i (.u64 (tn x n sz)) [] [] rfl trivial rfl rfl ?_ rfl trivial rfl
  exact if_pos h
 refine Ret.i (.u64 (tn x n sz)) [] [] rfl trivial rfl rfl ?_ rfl trivial rfl;exact if_neg h
theorem aUL (x a b c sz:UInt64):Sx.Fn Γ.P 147 [.u64 x,.u64 a,.u64 b,.u64 c,.u64 sz,.tt] [] (λv _=>v= .u64 (thS x a b c sz)):=by
 refine aG (Γ:=Γ) (fn:=Tryz.f147) rfl rfl rfl rfl ?_;refine Call.pure (aQQ x a sz) rfl fc ?_;rintro _ rfl;refine Call.pure (aQQ x b sz) rfl fc ?_;rintro _ rfl;exact Ret.i (.u64 (thS x a b c sz)) [] [] rfl trivial rfl rfl rfl rfl trivial rfl
theorem aUK (x a b c sz:UInt64):Sx.Fn Γ.P 147 [.u64 x,.u64 a,.u64 b,.u64 c,.u64 sz,.ff] [] (λv _=>v= .u64 (thT x a b c sz)):=by
 refine aG (Γ:=Γ) (fn:=Tryz.f147) rfl rfl rfl rfl ?_;refine Call.pure (aQQ x a sz) rfl fc ?_;rintro _ rfl;refine Call.pure (aQQ x b sz) rfl fc ?_;rintro _ rfl;refine Call.pure (aQQ x c sz) rfl fc ?_;rintro _ rfl;exact Ret.i (.u64 (thT x a b c sz)) [] [] rfl trivial rfl rfl rfl rfl trivial rfl
theorem acB:Sx.Fn Γ.P 143 [] [] (λv M=>v= .sl 1001 0 0 8 8/\M=[(1001,.mem true 0 [(8,.a64 F64)])]):=by
 have hH:=aI9;refine aG (Γ:=Γ) (fn:=Tryz.f143) rfl rfl rfl rfl ?_;refine gB ?_;refine Ret.i (.sl 1001 0 0 8 8) [(1001,.mem true 0 [(8,.a64 F64)])] [(1001,(1,0,none))] rfl trivial ⟨rfl,rfl⟩ rfl ?_ rfl ?_ rfl
 .exact fc
 exact⟨rfl,rfl,hH⟩
theorem acA:Sx.Fn Γ.P 144 [] [] (λv M=>v= .sl 1001 0 0 80 80/\M=[(1001,.mem true 0 [(80,.a64 R64)])]):=by
 have hH:=aI6;refine aG (Γ:=Γ) (fn:=Tryz.f144) rfl rfl rfl rfl ?_;refine gB ?_;refine Ret.i (.sl 1001 0 0 80 80) [(1001,.mem true 0 [(80,.a64 R64)])] [(1001,(1,0,none))] rfl trivial ⟨rfl,rfl⟩ rfl ?_ rfl ?_ rfl
 .exact fc
 exact⟨rfl,rfl,hH⟩
structure Cf where
 sz:UInt64
 mask:UInt64
 s:List UInt64
 k:List UInt64
 n:Nat
 wd:Nat
def wR (c:Cf) (all:List UInt8) (at_:Nat) (w:List UInt64) (i:Nat):Nat->List UInt64
 |0=>w
 |j+1=>(wR c all at_ w i j).set i ((wR c all at_ w i j).getD i 0*256+(all.getD (at_+c.wd*i+j) 0).toUInt64)
def wN (c:Cf) (w:List UInt64) (i:Nat):UInt64:=
 (w.getD (i-16) 0+thS (w.getD (i-15) 0) (c.s.getD 6 0) (c.s.getD 7 0) (c.s.getD 8 0) c.sz+w.getD (i-7) 0+thS (w.getD (i-2) 0) (c.s.getD 9 0) (c.s.getD 10 0) (c.s.getD 11 0) c.sz)&&&c.mask
def wRs (c:Cf) (all:List UInt8) (at_:Nat):Nat->List UInt64
 |0=>replicate c.n 0
 |i+1=>if 16<=i then(wRs c all at_ i).set i (wN c (wRs c all at_ i) i)else wR c all at_ (wRs c all at_ i) i c.wd
def aV4 (c:Cf) (v:List UInt64) (k w:UInt64):UInt64:=
 v.getD 7 0+thT (v.getD 4 0) (c.s.getD 3 0) (c.s.getD 4 0) (c.s.getD 5 0) c.sz+(v.getD 4 0&&&v.getD 5 0^^^(c.mask^^^v.getD 4 0)&&&v.getD 6 0)+k+w
def aWP (c:Cf) (v:List UInt64):UInt64:=
 thT (v.getD 0 0) (c.s.getD 0 0) (c.s.getD 1 0) (c.s.getD 2 0) c.sz+(v.getD 0 0&&&v.getD 1 0^^^v.getD 0 0&&&v.getD 2 0^^^v.getD 1 0&&&v.getD 2 0)
def rdR (c:Cf) (v:List UInt64) (k w:UInt64):List UInt64:=
 [(aV4 c v k w+aWP c v)&&&c.mask,v.getD 0 0,v.getD 1 0,v.getD 2 0,(v.getD 3 0+aV4 c v k w)&&&c.mask,v.getD 4 0,v.getD 5 0,v.getD 6 0]
def xI (c:Cf) (w v:List UInt64):Nat->List UInt64
 |0=>v
 |i+1=>rdR c (xI c w v i) (c.k.getD i 0) (w.getD i 0)
def hR (c:Cf) (h v:List UInt64):Nat->List UInt64
 |0=>h
 |i+1=>(hR c h v i).set i (((hR c h v i).getD i 0+v.getD i 0)&&&c.mask)
def aSG (c:Cf) (h:List UInt64) (all:List UInt8) (at_:Nat):List UInt64:=hR c h (xI c (wRs c all at_ c.n) h c.n) 8
def nG (c:Cf) (h:List UInt64) (all:List UInt8):Nat->List UInt64
 |0=>h
 |q+1=>aSG c (nG c h all q) all (16*c.wd*q)
def tJ (wd2:Nat) (t:List UInt8) (n:UInt64):Nat->List UInt8
 |0=>t
 |k+1=>tJ wd2 t n k++[if wd2-1-k<8 then(aF (aQ n 3) (8*(wd2-1-k))).toUInt8 else 0]
def oR (wd:Nat) (x:UInt64) (out:List UInt8):Nat->List UInt8
 |0=>out
 |j+1=>oR wd x out j++[(aF x (8*(wd-1-j))).toUInt8]
def wH (wd:Nat) (h:List UInt64):Nat->List UInt8
 |0=>[]
 |i+1=>oR wd (h.getD i 0) (wH wd h i) wd
def aSI (wd:Nat) (b:List UInt8) (z:Nat):List UInt8:=tJ (2*wd) (qi b z) (ofInt (b.length:Int)) (2*wd)
def vK (c:Cf) (h:List UInt64) (b:List UInt8) (z:Nat):List UInt8:=wH c.wd (nG c h (aSI c.wd b z) ((aSI c.wd b z).length/(16*c.wd))) 8
theorem oW (c:Cf) (all:List UInt8) (a:Nat) (w:List UInt64) (i:Nat):∀j,(wR c all a w i j).length=w.length
 |0=>rfl
 |j+1=>by simp only[wR,length_set,oW c all a w i j]
theorem mG (c:Cf) (all:List UInt8) (a:Nat):∀i,(wRs c all a i).length=c.n
 |0=>length_replicate
 |i+1=>by
  simp only[wRs];split
  .rw[length_set,mG c all a i]
  rw[oW,mG c all a i]
theorem xH (c:Cf) (w:List UInt64) {v:List UInt64} (h:v.length=8):∀i,(xI c w v i).length=8
 |0=>h
 |i+1=>rfl
theorem qE (c:Cf) {h:List UInt64} (v:List UInt64) (hh:h.length=8):∀i,(hR c h v i).length=8
 |0=>hh
 |i+1=>by simp only[hR,length_set,qE c v hh i]
theorem np (c:Cf) {h:List UInt64} (all:List UInt8) (hh:h.length=8):∀q,(nG c h all q).length=8
 |0=>hh
 |q+1=>qE c _ (np c all hh q) 8
theorem pu (wd2:Nat) (t:List UInt8) (n:UInt64):∀k,(tJ wd2 t n k).length=t.length+k
 |0=>rfl
 |k+1=>by simp only[tJ,zlA,pu wd2 t n k,List.length_cons,List.length_nil];omega
theorem pR (wd:Nat) (x:UInt64) (out:List UInt8):∀j,(oR wd x out j).length=out.length+j
 |0=>rfl
 |j+1=>by simp only[oR,zlA,pR wd x out j,List.length_cons,List.length_nil];omega
theorem j6 (wd:Nat) (h:List UInt64):∀i,(wH wd h i).length=wd*i
 |0=>rfl
 |i+1=>by simp only[wH,pR,j6 wd h i,Nat.mul_succ]
theorem uE (i:Nat) (h:i<100000):(ofInt (i:Int)).toNat=i:=by
 simp[ofInt];omega
@[irreducible] def C64:Cf:=⟨64,ofNat 18446744073709551615,S64,R64,80,8⟩
theorem jG:C64=⟨64,ofNat 18446744073709551615,S64,R64,80,8⟩:=by unfold C64;rfl
theorem aL1 (b:List UInt8) (m:Nat) (hb:b.length=m) (hmax:m<=100000000):Sx.Fn Γ.P 127 [.slx 1000 0 0 m,.u64 64] [(1000,.mem false 0 [(m,.a8 b)])]
  (λv M=>∃c,64<=c/\v= .sl 1001 0 0 64 c/\M=[(1000,.mem false 0 [(m,.a8 b)]),(1001,.mem true (c-64) [(64,.a8 (vK C64 F64 b (aw (m%128))))])]):=by
 have hS:=aI5;have hC:=jG;have hFl:=aDD;have hKl:=aC9;have hSl:=aC8;have cs:C64.s=S64:=by rw[hC]
 have ck:C64.k=R64:=by rw[hC]
 have csz:C64.sz=64:=by rw[hC]
 have cm:C64.mask=(ofNat 18446744073709551615):=by rw[hC]
 have cn:C64.n=80:=by rw[hC]
 have cw:C64.wd=8:=by rw[hC]
 clear hC;have hw4:(64/ofNat 8:UInt64).toNat=8:=by decide
 have hn8:ofNat 8≠0:=by decide
 refine aG (Γ:=Γ) (fn:=Tryz.f127) rfl rfl rfl rfl ?_;refine Call.i acB [(1001,(1001,0,none))] rfl trivial rfl trivial rfl ?_;rintro _ _ ⟨rfl,rfl⟩;refine Call.i acA [(1001,(1002,0,none))] rfl trivial rfl trivial rfl ?_;rintro _ _ ⟨rfl,rfl⟩;refine gB ?_;refine zB.i (λhn=>absurd hn (by decide)) (λ_=>?_)
 repeat refine sdO ?_
 intro c1 hc1
 repeat refine sdO ?_
 intro c2 hc2
 repeat refine sdO ?_
 have ht0:take m (List.drop 0 b)=b:=by rw[drop_zero,take_of_length_le (by omega)]
 obtain⟨Z,hZ⟩:∃x,aw (m%128)=x:=⟨_,rfl⟩;have hz:Z=(239-m%128)%128:=by rw[<-hZ];rfl
 refine aY.i (σ:=Nat×Nat) (λs=>s.1<=Z/\m+1+s.1<=s.2)
  (λs=>([(0,.slx 1000 0 0 m),(1,.u64 64),(5,.u64 (ofNat 18446744073709551615)),(6,.sl 300 0 0 8 8),(7,.sl 301 0 0 80 80),(8,.sl 302 0 0 12 12),(9,.i .i64 8),(10,.i .i64 128),(11,.sl 200 0 0 (m+1+s.1) s.2)],
   [(1000,.mem false 0 [(m,.a8 b)]),(300,.mem true 0 [(8,.a64 F64)]),(301,.mem true 0 [(80,.a64 R64)]),(302,.mem true 0 [(12,.a64 S64)]),(200,.mem true (s.2-(m+1+s.1)) [(m+1+s.1,.a8 (qi b s.1))])])) (λs=>Z-s.1) (0,c2) ⟨zero_le _,by have:0+m+1<=c2:=hc2;show m+1+0<=c2;omega⟩ ?_ ?_
 .refine Le.i [(300,(1001,0,none)),(301,(1002,0,none)),(302,(28,0,none)),(200,(44,0,none))] rfl ?_ rfl ?_ rfl
  .exact fc
  repeat' first|exact trivial|refine zA.app ?_ ?_|refine zA.zd ?_ ?_|refine zA.cons ?_ ?_|exact fc|fail
  all_goals first|exact hS|(show qi b 0=[]++take m (List.drop 0 b)++[128];rw[ht0];simp[qi])
 clear hS;rintro⟨j,c⟩ ⟨hj,hc⟩;have hj:j<=Z:=hj;have hc:m+1+j<=c:=hc;have hpl:=iB b j;rw[hb]at hpl;refine gB ?_;refine zB.i ?_ ?_<;>intro hb1
 .have hb1:¬((m+1+j:Nat):Int)%128=128-2*8:=hb1
  have hlt:j<Z:=by omega
  refine gB ?_;intro c' hc';refine gB ?_;have hp1:=pL b j;refine⟨(j+1,c'),⟨hlt,by show m+1+(j+1)<=c';have:m+1+j+1<=c':=hc';omega⟩,by show Z-(j+1)<Z-j;omega,Le.i [(200,(56,0,none))] rfl fc rfl fc rfl⟩
 have hb1:¬¬((m+1+j:Nat):Int)%128=128-2*8:=hb1;obtain rfl:j=Z:=by omega
 obtain⟨T0,hT0⟩:∃x,qi b j=x:=⟨_,rfl⟩;rw[hT0]at hpl;obtain⟨L0,hL0⟩:∃x,m+1+j=x:=⟨_,rfl⟩;rw[hL0]at hpl hc;obtain⟨n,hn⟩:∃x,ofInt (m:Int)=x:=⟨_,rfl⟩;have hall0:aSI 8 b j=tJ 16 T0 n 16:=by unfold aSI;rw[hT0,hb,hn]
 refine gB ?_
 refine aY.i (σ:=Nat×Nat) (λs=>s.1<=16/\L0+s.1<=s.2)
  (λs=>([(0,.slx 1000 0 0 m),(1,.u64 64),(5,.u64 (ofNat 18446744073709551615)),(6,.sl 300 0 0 8 8),(7,.sl 301 0 0 80 80),(8,.sl 302 0 0 12 12),(9,.i .i64 8),(10,.i .i64 128),(11,.sl 200 0 0 (L0+s.1) s.2),(12,.i .i64 (15-(s.1:Int)))],
   [(1000,.mem false 0 [(m,.a8 b)]),(300,.mem true 0 [(8,.a64 F64)]),(301,.mem true 0 [(80,.a64 R64)]),(302,.mem true 0 [(12,.a64 S64)]),(200,.mem true (s.2-(L0+s.1)) [(L0+s.1,.a8 (tJ 16 T0 n s.1))])])) (λs=>16-s.1) (0,c) ⟨zero_le _,hc⟩ ?_ ?_
 .have hT0':=hT0.symm
  have hL0':=hL0.symm;clear hT0 hL0;refine Le.i [] rfl ?_ rfl ?_ rfl
  .exact fc
  have e0:tJ 16 T0 n 0=T0:=rfl
  repeat' first|exact trivial|refine zA.app ?_ ?_|refine zA.zd ?_ ?_|refine zA.cons ?_ ?_|exact fc|fail
  all_goals exact hT0'
 rintro⟨k,c⟩ ⟨hk,hc⟩;have hk:k<=16:=hk;have hc:L0+k<=c:=hc;have hll:=pu 16 T0 n k;rw[hpl]at hll;refine zB.i ?_ ?_<;>intro hb2
 .have hb2:(15-(k:Int))≥0:=hb2
  refine zB.i ?_ ?_<;>intro hb8
  .have hb8:(15-(k:Int))<8:=hb8
   refine gB ?_;intro c' hc';refine gB ?_;have e7:(ofInt (8*(15-(k:Int)))).toNat=8*(16-1-k):=by
    rw[show(8*(15-(k:Int)))=((8*(16-1-k):Nat):Int) by omega];exact uE _ (by omega)
   refine⟨(k+1,c'),⟨by show k+1<=16;omega,by show L0+(k+1)<=c';have:L0+k+1<=c':=hc';omega⟩,by show 16-(k+1)<16-k;omega,Le.i [(200,(78,0,none))] rfl ?_ rfl ?_ rfl⟩
   .exact fc
   repeat' first|exact trivial|refine zA.app ?_ ?_|refine zA.zd ?_ ?_|refine zA.cons ?_ ?_|exact fc|fail
   all_goals(show tJ 16 T0 n (k+1)=tJ 16 T0 n k++[(aF (aQ (ofInt (m:Int)) 3) (ofInt (8*(15-(k:Int)))).toNat).toUInt8])
   all_goals rw[e7,hn]
   all_goals simp only[tJ]
   all_goals rw[if_pos (by omega)]
  have hb8:¬(15-(k:Int))<8:=hb8;refine gB ?_;intro c' hc';refine gB ?_;refine⟨(k+1,c'),⟨by show k+1<=16;omega,by show L0+(k+1)<=c';have:L0+k+1<=c':=hc';omega⟩,by show 16-(k+1)<16-k;omega,Le.i [(200,(78,0,none))] rfl ?_ rfl ?_ rfl⟩
  .exact fc
  repeat' first|exact trivial|refine zA.app ?_ ?_|refine zA.zd ?_ ?_|refine zA.cons ?_ ?_|exact fc|fail
  all_goals(show tJ 16 T0 n (k+1)=tJ 16 T0 n k++[0])
  all_goals simp only[tJ]
  all_goals rw[if_neg (by omega)]
 obtain rfl:k=16:=by have hb2:¬(15-(k:Int))≥0:=hb2;omega
 obtain⟨T,hT⟩:∃x,tJ 16 T0 n 16=x:=⟨_,rfl⟩;obtain⟨L,hL⟩:∃x,L0+16=x:=⟨_,rfl⟩;rw[hT,hL]at hll;rw[hL]at hc;rw[hT]at hall0;have hL2:L%128=0:=by omega
 have hsum:vK C64 F64 b j=wH 8 (nG C64 F64 T (L/128)) 8:=by unfold vK;rw[cw,hall0,hll]
 rw[hZ,hsum];clear hall0 hsum
 refine aY.i (σ:=Nat) (λq=>q<=L/128)
  (λq=>([(0,.slx 1000 0 0 m),(1,.u64 64),(5,.u64 (ofNat 18446744073709551615)),(6,.sl 300 0 0 8 8),(7,.sl 301 0 0 80 80),(8,.sl 302 0 0 12 12),(9,.i .i64 8),(10,.i .i64 128),(11,.sl 200 0 0 L c),(14,.i .i64 (128*q:Nat))],
   [(1000,.mem false 0 [(m,.a8 b)]),(300,.mem true 0 [(8,.a64 (nG C64 F64 T q))]),(301,.mem true 0 [(80,.a64 R64)]),(302,.mem true 0 [(12,.a64 S64)]),(200,.mem true (c-L) [(L,.a8 T)])])) (λq=>L/128-q) 0 (zero_le _) ?_ ?_
 .have hT':=hT.symm
  have hL':=hL.symm;clear hT hL;refine Le.i [] rfl ?_ rfl ?_ rfl
  .exact fc
  have e0:nG C64 F64 T 0=F64:=rfl
  repeat' first|exact trivial|refine zA.app ?_ ?_|refine zA.zd ?_ ?_|refine zA.cons ?_ ?_|exact fc|fail
  all_goals exact hT'
 rintro q hq;have hbl:=np C64 T hFl q;refine zB.i ?_ ?_<;>intro hb3
 .have hb3:((128*q:Nat):Int)<(L:Int):=hb3
  obtain⟨H,hH⟩:∃x,nG C64 F64 T q=x:=⟨_,rfl⟩;have hnext:nG C64 F64 T (q+1)=aSG C64 (nG C64 F64 T q) T (128*q):=by
   simp only[nG,cw]
  rw[hH]at hbl hnext;have hblk:aSG C64 H T (128*q)=hR C64 H (xI C64 (wRs C64 T (128*q) 80) H 80) 8:=by unfold aSG;rw[cn]
  rw[hblk]at hnext;obtain⟨A,hA⟩:∃x,128*q=x:=⟨_,rfl⟩;have hAL:A+128<=L:=by omega
  rw[hA]at hnext;refine gB ?_
  refine aY.i (σ:=Nat) (λi=>i<=80)
   (λi=>([(0,.slx 1000 0 0 m),(1,.u64 64),(5,.u64 (ofNat 18446744073709551615)),(6,.sl 300 0 0 8 8),(7,.sl 301 0 0 80 80),(8,.sl 302 0 0 12 12),(9,.i .i64 8),(10,.i .i64 128),(11,.sl 200 0 0 L c),(14,.i .i64 (A:Nat)),(15,.sl 201 0 0 80 80),(16,.i .i64 i)],
    [(1000,.mem false 0 [(m,.a8 b)]),(300,.mem true 0 [(8,.a64 H)]),(301,.mem true 0 [(80,.a64 R64)]),(302,.mem true 0 [(12,.a64 S64)]),(200,.mem true (c-L) [(L,.a8 T)]),(201,.mem true 0 [(80,.a64 (wRs C64 T A i))])])) (λi=>80-i) 0 (zero_le _) ?_ ?_
  .have hH':=hH.symm
   have hA':=hA.symm;clear hA hH;refine Le.i [(201,(88,0,none))] rfl ?_ rfl ?_ rfl
   .exact fc
   have e0:wRs C64 T A 0=replicate 80 0:=by simp only[wRs,cn]
   repeat' first|exact trivial|refine zA.app ?_ ?_|refine zA.zd ?_ ?_|refine zA.cons ?_ ?_|exact fc|fail
   all_goals first|exact hH'|exact e0
  rintro i hi;have hwl:=mG C64 T A i;rw[cn]at hwl;refine zB.i ?_ ?_<;>intro hb4
  .have hb4:(i:Int)<80:=hb4
   obtain⟨W,hW⟩:∃x,wRs C64 T A i=x:=⟨_,rfl⟩;rw[hW]at hwl;refine zB.i ?_ ?_<;>intro h16
   .have h16:(i:Int)≥16:=h16
    have hwn:wRs C64 T A (i+1)=W.set i (wN C64 W i):=by
     simp only[wRs];rw[if_pos (by omega),hW]
    have e1:((i:Int)-16).toNat=i-16:=by omega
    have e2:((i:Int)-15).toNat=i-15:=by omega
    have e3:((i:Int)-7).toNat=i-7:=by omega
    have e4:((i:Int)-2).toNat=i-2:=by omega
    refine aH.i [[],[],[],[],[3],[2,3,4],[2,3,4,5],[],[],[8],[7,8,9],[7,8,9,10],[],[12],[12,13],[],[15],[15,16],[],[18],[18,19],[],[7,8,9,10,11,12,13,14,15,16,17,18,19,20,21],[2,3,4,5,6,7,8,9,10,11,12,13,14,15,16,17,18,19,20,21,22],[],[],[25],[24,25,26],[24,25,26,27],[2,3,4,5,6,7,8,9,10,11,12,13,14,15,16,17,18,19,20,21,22,23,24,25,26,27,28],[],[],[31],[30,31,32],[30,31,32,33],[],[35],[35,36],[],[38],[38,39],[],[41],[41,42],[],[7,8,9,10,11,12,13,14,15,16,17,18,19,20,21,22,30,31,32,33,34,35,36,37,38,39,40,41,42,43,44],[2,3,4,5,6,7,8,9,10,11,12,13,14,15,16,17,18,19,20,21,22,23,24,25,26,27,28,29,30,31,32,33,34,35,36,37,38,39,40,41,42,43,44,45],[],[2,3,4,5,6,7,8,9,10,11,12,13,14,15,16,17,18,19,20,21,22,23,24,25,26,27,28,29,30,31,32,33,34,35,36,37,38,39,40,41,42,43,44,45,46,47],[0,1,2,3,4,5,6,7,8,9,10,11,12,13,14,15,16,17,18,19,20,21,22,23,24,25,26,27,28,29,30,31,32,33,34,35,36,37,38,39,40,41,42,43,44,45,46,47,48],[0,1,2,3,4,5,6,7,8,9,10,11,12,13,14,15,16,17,18,19,20,21,22,23,24,25,26,27,28,29,30,31,32,33,34,35,36,37,38,39,40,41,42,43,44,45,46,47,48,49]] [0,1,2,3,4,5,6,7,8,9,10,11,12,13,14,15,16,17,18,19,20,21,24,25,26,27,28,30,31,32,33,34,35,36,37,38,39,40,41,42,43,44,47,22,23,29,45,46,48,49,50] (by kernel_rfl) ?_
    repeat refine sdP ?_
    refine Call.pure (aUL ((wRs C64 T A i).getD (i-15) 0) (S64.getD 6 0) (S64.getD 7 0) (S64.getD 8 0) 64) rfl (by repeat' (first|(show zA _;first|exact trivial|refine zA.app ?_ ?_|refine zA.zd ?_ ?_|refine zA.cons ?_ ?_)|with_reducible rfl|with_reducible assumption|omega |(simp only[zero_add,e2,rng,Ix.val,zQ,addI,szs]<;>omega)|(simp only[zero_add,e2,rng,Ix.val,zIn,zme,zQ,addI,getD_none,Option.getD_some,zlT,zlD,zlA,length_set,length_replicate,szs, *]<;>omega)|(simp only[Ix.val];with_reducible assumption)|exact UInt8.toNat_lt _|(apply Eq.trans;(with_reducible assumption);exact rfl)|exact rfl|exactλ_ _=>rfl)) ?_;rintro _ rfl;refine cL.i [] rfl rfl ?_;refine Call.pure (aUL ((wRs C64 T A i).getD (i-2) 0) (S64.getD 9 0) (S64.getD 10 0) (S64.getD 11 0) 64) rfl fcH ?_;rintro _ rfl;refine cL.i [] rfl rfl ?_
    repeat refine sdP ?_
    refine⟨i+1,by omega,by omega,Le.i [] rfl fc rfl ?_ rfl⟩
    repeat' first|exact trivial|refine zA.app ?_ ?_|refine zA.zd ?_ ?_|refine zA.cons ?_ ?_|exact fc|fail
    simp only[zero_add,e1,e2,e3,e4,zQ,Ix.val,zIn];rw[hwn,<-hW];unfold wN;rw[cs,csz,cm]
    try rfl
   have h16:¬(i:Int)≥16:=h16;have hwn:wRs C64 T A (i+1)=wR C64 T A W i 8:=by
    simp only[wRs];rw[if_neg (by omega),hW,cw]
   refine aY.i (σ:=Nat) (λj=>j<=8)
    (λj=>([(0,.slx 1000 0 0 m),(1,.u64 64),(5,.u64 (ofNat 18446744073709551615)),(6,.sl 300 0 0 8 8),(7,.sl 301 0 0 80 80),(8,.sl 302 0 0 12 12),(9,.i .i64 8),(10,.i .i64 128),(11,.sl 200 0 0 L c),(14,.i .i64 (A:Nat)),(15,.sl 201 0 0 80 80),(16,.i .i64 i),(17,.i .i64 j)],
     [(1000,.mem false 0 [(m,.a8 b)]),(300,.mem true 0 [(8,.a64 H)]),(301,.mem true 0 [(80,.a64 R64)]),(302,.mem true 0 [(12,.a64 S64)]),(200,.mem true (c-L) [(L,.a8 T)]),(201,.mem true 0 [(80,.a64 (wR C64 T A W i j))])])) (λj=>8-j) 0 (zero_le _) ?_ ?_
   .have hW':=hW.symm
    clear hW;refine Le.i [] rfl ?_ rfl ?_ rfl
    .exact fc
    have e0:wR C64 T A W i 0=W:=rfl
    repeat' first|exact trivial|refine zA.app ?_ ?_|refine zA.zd ?_ ?_|refine zA.cons ?_ ?_|exact fc|fail
    all_goals exact e0.trans hW'
   rintro j2 hj2;have hwl2:=oW C64 T A W i j2;rw[hwl]at hwl2;refine zB.i ?_ ?_<;>intro hb5
   .have hb5:(j2:Int)<8:=hb5
    have e5:((A:Int)+8*i+j2).toNat=A+8*i+j2:=by omega
    refine aH.i [[],[],[],[],[2,3],[2,3,4],[2,3,4,5],[],[],[],[],[9,10],[8,9,10,11],[],[8,9,10,11,12,13],[7,8,9,10,11,12,13,14],[7,8,9,10,11,12,13,14,15],[7,8,9,10,11,12,13,14,15,16],[2,3,4,5,6,7,8,9,10,11,12,13,14,15,16,17],uf,aJG] aJF (by kernel_rfl) ?_
    repeat(refine fg.i (by repeat' (first|(show zA _;first|exact trivial|refine zA.app ?_ ?_|refine zA.zd ?_ ?_|refine zA.cons ?_ ?_)|with_reducible rfl|with_reducible assumption|omega |(simp only[zero_add,e5,hw4,rng,Ix.val,zQ,addI,szs]<;>omega)|(simp only[zero_add,e5,hw4,rng,Ix.val,zIn,zme,zQ,addI,getD_none,Option.getD_some,zlT,zlD,zlA,length_set,length_replicate,szs, *]<;>omega)|(simp only[Ix.val];with_reducible assumption)|exact UInt8.toNat_lt _|(apply Eq.trans;(with_reducible assumption);exact rfl)|exact rfl|exactλ_ _=>rfl)) ?_)
    refine⟨j2+1,by omega,by omega,Le.i [] rfl fc rfl ?_ rfl⟩
    repeat' first|exact trivial|refine zA.app ?_ ?_|refine zA.zd ?_ ?_|refine zA.cons ?_ ?_|exact fc|fail
    all_goals simp only[zero_add,e5,zQ,Ix.val,zIn,wR,cw]
    all_goals try rfl
   obtain rfl:j2=8:=by have hb5:¬(j2:Int)<8:=hb5;omega
   refine gB ?_;refine⟨i+1,by omega,by omega,Le.i [] rfl fc rfl ?_ rfl⟩
   repeat' first|exact trivial|refine zA.app ?_ ?_|refine zA.zd ?_ ?_|refine zA.cons ?_ ?_|exact fc|fail
   all_goals exact hwn
  obtain rfl:i=80:=by have hb4:¬(i:Int)<80:=hb4;omega
  obtain⟨W,hW⟩:∃x,wRs C64 T A 80=x:=⟨_,rfl⟩;rw[hW]at hwl hnext;refine gB ?_;intro c3 hc3;refine gB ?_;have htH:take 8 (List.drop 0 H)=H:=by rw[drop_zero,take_of_length_le (by omega)]
  refine aY.i (σ:=Nat×Nat) (λs=>s.1<=80/\8<=s.2)
   (λs=>([(0,.slx 1000 0 0 m),(1,.u64 64),(5,.u64 (ofNat 18446744073709551615)),(6,.sl 300 0 0 8 8),(7,.sl 301 0 0 80 80),(8,.sl 302 0 0 12 12),(9,.i .i64 8),(10,.i .i64 128),(11,.sl 200 0 0 L c),(14,.i .i64 (A:Nat)),(15,.sl 201 0 0 80 80),(18,.sl 202 0 0 8 s.2),(19,.i .i64 s.1)],
    [(1000,.mem false 0 [(m,.a8 b)]),(300,.mem true 0 [(8,.a64 H)]),(301,.mem true 0 [(80,.a64 R64)]),(302,.mem true 0 [(12,.a64 S64)]),(200,.mem true (c-L) [(L,.a8 T)]),(201,.mem true 0 [(80,.a64 W)]),(202,.mem true (s.2-8) [(8,.a64 (xI C64 W H s.1))])])) (λs=>80-s.1) (0,c3) ⟨zero_le _,hc3⟩ ?_ ?_
  .have hW':=hW.symm
   clear hW;refine Le.i [(202,(174,0,none))] rfl ?_ rfl ?_ rfl
   .exact fc
   have e0:xI C64 W H 0=H:=rfl
   repeat' first|exact trivial|refine zA.app ?_ ?_|refine zA.zd ?_ ?_|refine zA.cons ?_ ?_|exact fc|fail
   all_goals first|exact hW'|(show xI C64 W H 0=[]++take 8 (List.drop 0 H);rw[htH,e0];rfl)
  rintro⟨i,cv⟩ ⟨hi,hcv⟩;have hi:i<=80:=hi;have hcv:8<=cv:=hcv;have hvl:=xH C64 W hbl i;refine zB.i ?_ ?_<;>intro hb6
  .have hb6:(i:Int)<80:=hb6
   obtain⟨V,hV⟩:∃x,xI C64 W H i=x:=⟨_,rfl⟩;have hrn:xI C64 W H (i+1)=rdR C64 V (R64.getD i 0) (W.getD i 0):=by
    simp only[xI];rw[hV,ck]
   rw[hV]at hvl;refine aH.i [[],[0],[0,1],[],[3],[3,4],[],[6],[6,7],[],[9],[9,10],[],[12],[12,13],[],[3,4,5,6,7,8,9,10,11,12,13,14,15],wG,[],[18],[18,19],[],[21],[21,22],[18,19,20,21,22,23],[],[],[26],[26,27],[25,26,27,28],[],[30],[30,31],[25,26,27,28,29,30,31,32],[18,19,20,21,22,23,24,25,26,27,28,29,30,31,32,33],[0,1,2,3,4,5,6,7,8,9,10,11,12,13,14,15,16,17,18,19,20,21,22,23,24,25,26,27,28,29,30,31,32,33,34],[],[],[36,37],[36,37,38],[0,1,2,3,4,5,6,7,8,9,10,11,12,13,14,15,16,17,18,19,20,21,22,23,24,25,26,27,28,29,30,31,32,33,34,35,36,37,38,39],[],[],[41,42],[41,42,43],[0,1,2,3,4,5,6,7,8,9,10,11,12,13,14,15,16,17,18,19,20,21,22,23,24,25,26,27,28,29,30,31,32,33,34,35,36,37,38,39,40,41,42,43,44],[0,1,2,3,4,5,6,7,8,9,10,11,12,13,14,15,16,17,18,19,20,21,22,23,24,25,26,27,28,29,30,31,32,33,34,35,36,37,38,39,40,41,42,43,44,45]] [0,1,2,3,4,5,6,7,8,9,10,11,12,13,14,15,18,19,20,21,22,23,24,25,26,27,28,29,30,31,32,33,34,36,37,38,39,41,42,43,44,16,17,35,40,45,46] (by kernel_rfl) ?_
   repeat refine sdQ ?_
   refine Call.pure (aUK ((xI C64 W H i).getD 4 0) (S64.getD 3 0) (S64.getD 4 0) (S64.getD 5 0) 64) rfl fc ?_;rintro _ rfl;refine cL.i [] rfl rfl ?_
   repeat refine sdQ ?_
   refine aH.i [[],[0],[0,1],[],[3],[3,4],[],[6],[6,7],[],[9],[9,10],[],jO,[],[14],[14,15],[],[17],[17,18],[14,15,16,17,18,19],[],[21],[21,22],[],[24],[24,25],[21,22,23,24,25,26],[14,15,16,17,18,19,20,21,22,23,24,25,26,27],[],[29],[29,30],[],[32],[32,33],[29,30,31,32,33,34],[14,15,16,17,18,19,20,21,22,23,24,25,26,27,28,29,30,31,32,33,34,35],[0,1,2,3,4,5,6,7,8,9,10,11,12,13,14,15,16,17,18,19,20,21,22,23,24,25,26,27,28,29,30,31,32,33,34,35,36],[0,1,2,3,4,5,6,7,8,9,10,11,12,13,14,15,16,17,18,19,20,21,22,23,24,25,26,27,28,29,30,31,32,33,34,35,36,37]] [0,1,2,3,4,5,6,7,8,9,10,11,12,14,15,16,17,18,19,20,21,22,23,24,25,26,27,28,29,30,31,32,33,34,35,36,13,37,38] (by kernel_rfl) ?_
   repeat refine sdQ ?_
   refine Call.pure (aUK ((xI C64 W H i).getD 0 0) (S64.getD 0 0) (S64.getD 1 0) (S64.getD 2 0) 64) rfl fc ?_;rintro _ rfl;refine cL.i [] rfl rfl ?_
   repeat refine sdQ ?_
   refine aH.i [[],[],[0,1],[],r_4,[],[5],[5,6],[],[8],[8,9],[],[11],[11,12],[],[14],[14,15],[],[14,15,16,17],[],[14,15,16,17,18,19],[],[21],[21,22],[],[24],[24,25],[],[27],[27,28],aS2,aZS] aZR (by kernel_rfl) ?_
   repeat refine sdQ ?_
   refine⟨(i+1,8),⟨by show i+1<=80;omega,le_refl _⟩,by show 80-(i+1)<80-i;omega,Le.i [(202,(295,0,none))] rfl ?_ rfl ?_ rfl⟩
   .exact fc
   have hrn2:=hrn;rw[<-hV]at hrn2;unfold rdR aV4 aWP at hrn2;rw[cs,csz,cm]at hrn2
   repeat' first|exact trivial|refine zA.app ?_ ?_|refine zA.zd ?_ ?_|refine zA.cons ?_ ?_|exact fc|fail
   all_goals exact hrn2
  obtain rfl:i=80:=by have hb6:¬(i:Int)<80:=hb6;omega
  obtain⟨V,hV⟩:∃x,xI C64 W H 80=x:=⟨_,rfl⟩;rw[hV]at hvl hnext
  refine aY.i (σ:=Nat) (λi=>i<=8)
   (λi=>([(0,.slx 1000 0 0 m),(1,.u64 64),(5,.u64 (ofNat 18446744073709551615)),(6,.sl 300 0 0 8 8),(7,.sl 301 0 0 80 80),(8,.sl 302 0 0 12 12),(9,.i .i64 8),(10,.i .i64 128),(11,.sl 200 0 0 L c),(14,.i .i64 (A:Nat)),(18,.sl 202 0 0 8 cv),(22,.i .i64 i)],
    [(1000,.mem false 0 [(m,.a8 b)]),(300,.mem true 0 [(8,.a64 (hR C64 H V i))]),(301,.mem true 0 [(80,.a64 R64)]),(302,.mem true 0 [(12,.a64 S64)]),(200,.mem true (c-L) [(L,.a8 T)]),(202,.mem true (cv-8) [(8,.a64 V)])])) (λi=>8-i) 0 (zero_le _) ?_ ?_
  .have hV':=hV.symm
   clear hV;refine Le.i [] rfl ?_ rfl ?_ rfl
   .exact fc
   have e0:hR C64 H V 0=H:=rfl;exact fc
  rintro i hi;have hhl:=qE C64 V hbl i;refine zB.i ?_ ?_<;>intro hb7
  .have hb7:(i:Int)<8:=hb7
   refine aH.i [[],[],[],[],[2,3],[2,3,4],[],[],[6,7],[6,7,8],[2,3,4,5,6,7,8,9],[],[2,3,4,5,6,7,8,9,10,11],jO,oB] nw (by kernel_rfl) ?_;refine gC ?_;refine⟨i+1,by omega,by omega,Le.i [] rfl fc rfl ?_ rfl⟩
   repeat' first|exact trivial|refine zA.app ?_ ?_|refine zA.zd ?_ ?_|refine zA.cons ?_ ?_|exact fc|fail
   all_goals simp only[zero_add,zQ,Ix.val,zIn,hR,cm]
   all_goals try rfl
  obtain rfl:i=8:=by have hb7:¬(i:Int)<8:=hb7;omega
  refine gB ?_;refine⟨q+1,by omega,by omega,Le.i [] rfl ?_ rfl ?_ rfl⟩
  .exact fc
  repeat' first|exact trivial|refine zA.app ?_ ?_|refine zA.zd ?_ ?_|refine zA.cons ?_ ?_|exact fc|fail
  all_goals exact hnext
 obtain rfl:q=L/128:=by have hb3:¬((128*q:Nat):Int)<(L:Int):=hb3;omega
 obtain⟨H,hH⟩:∃x,nG C64 F64 T (L/128)=x:=⟨_,rfl⟩;rw[hH]at hbl⊢;refine gB ?_
 refine aY.i (σ:=Nat×Nat) (λs=>s.1<=8/\8*s.1<=s.2)
  (λs=>([(0,.slx 1000 0 0 m),(1,.u64 64),(5,.u64 (ofNat 18446744073709551615)),(6,.sl 300 0 0 8 8),(7,.sl 301 0 0 80 80),(8,.sl 302 0 0 12 12),(9,.i .i64 8),(10,.i .i64 128),(23,.sl 203 0 0 (8*s.1) s.2),(24,.i .i64 s.1)],
   [(1000,.mem false 0 [(m,.a8 b)]),(300,.mem true 0 [(8,.a64 H)]),(301,.mem true 0 [(80,.a64 R64)]),(302,.mem true 0 [(12,.a64 S64)]),(203,.mem true (s.2-8*s.1) [(8*s.1,.a8 (wH 8 H s.1))])])) (λs=>8-s.1) (0,0) ⟨zero_le _,zero_le _⟩ ?_ ?_
 .have hH':=hH.symm
  clear hH;refine Le.ghost [.own 203 [(0,.a8 [])]] [(23,203)] [] rfl ⟨rfl,rfl,trivial⟩ rfl rfl fc rfl fc rfl
 rintro⟨i,co⟩ ⟨hi,hco⟩;have hi:i<=8:=hi;have hco:8*i<=co:=hco;have hol:=j6 8 H i;refine zB.i ?_ ?_<;>intro hb7
 .have hb7:(i:Int)<8:=hb7
  refine gB ?_
  refine aY.i (σ:=Nat×Nat) (λs=>s.1<=8/\8*i+s.1<=s.2)
   (λs=>([(0,.slx 1000 0 0 m),(1,.u64 64),(5,.u64 (ofNat 18446744073709551615)),(6,.sl 300 0 0 8 8),(7,.sl 301 0 0 80 80),(8,.sl 302 0 0 12 12),(9,.i .i64 8),(10,.i .i64 128),(23,.sl 203 0 0 (8*i+s.1) s.2),(24,.i .i64 i),(25,.i .i64 (7-(s.1:Int)))],
    [(1000,.mem false 0 [(m,.a8 b)]),(300,.mem true 0 [(8,.a64 H)]),(301,.mem true 0 [(80,.a64 R64)]),(302,.mem true 0 [(12,.a64 S64)]),(203,.mem true (s.2-(8*i+s.1)) [(8*i+s.1,.a8 (oR 8 (H.getD i 0) (wH 8 H i) s.1))])])) (λs=>8-s.1) (0,co) ⟨zero_le _,hco⟩ ?_ ?_
  .refine Le.i [] rfl ?_ rfl ?_ rfl
   .exact fc
   have e0:oR 8 (H.getD i 0) (wH 8 H i) 0=wH 8 H i:=rfl;exact fc
  rintro⟨j2,co⟩ ⟨hj2,hco⟩;have hj2:j2<=8:=hj2;have hco:8*i+j2<=co:=hco;have hol2:=pR 8 (H.getD i 0) (wH 8 H i) j2;rw[hol]at hol2;refine zB.i ?_ ?_<;>intro hb8
  .have hb8:(7-(j2:Int))≥0:=hb8
   refine gB ?_;intro c' hc';refine gB ?_;have e7:(ofInt (8*(7-(j2:Int)))).toNat=8*(8-1-j2):=by
    rw[show(8*(7-(j2:Int)))=((8*(8-1-j2):Nat):Int) by omega];exact uE _ (by omega)
   refine⟨(j2+1,c'),⟨by show j2+1<=8;omega,by show 8*i+(j2+1)<=c';have:8*i+j2+1<=c':=hc';omega⟩,by show 8-(j2+1)<8-j2;omega,Le.i [(203,(335,0,none))] rfl ?_ rfl ?_ rfl⟩
   .exact fc
   repeat' first|exact trivial|refine zA.app ?_ ?_|refine zA.zd ?_ ?_|refine zA.cons ?_ ?_|exact fc|fail
   all_goals(show oR 8 (H.getD i 0) (wH 8 H i) (j2+1)=oR 8 (H.getD i 0) (wH 8 H i) j2++[(aF (H.getD i 0) (ofInt (8*(7-(j2:Int)))).toNat).toUInt8])
   all_goals rw[e7]
   all_goals rfl
  obtain rfl:j2=8:=by have hb8:¬(7-(j2:Int))≥0:=hb8;omega
  refine gB ?_;have e1:8*(i+1)=8*i+8:=by omega
  refine⟨(i+1,co),⟨by show i+1<=8;omega,by show 8*(i+1)<=co;omega⟩,by show 8-(i+1)<8-i;omega,Le.i [] rfl ?_ rfl ?_ rfl⟩
  .exact fc
  have e2:wH 8 H (i+1)=oR 8 (H.getD i 0) (wH 8 H i) 8:=rfl;exact fc
 obtain rfl:i=8:=by have hb7:¬(i:Int)<8:=hb7;omega
 obtain⟨O,hO⟩:∃x,wH 8 H 8=x:=⟨_,rfl⟩;rw[hO]at hol⊢;have hO':=hO.symm;clear hO;refine gB ?_;refine Ret.i (.sl 1001 0 0 64 co) [(1000,.mem false 0 [(m,.a8 b)]),(1001,.mem true (co-64) [(64,.a8 O)])] [(1001,(203,0,none))] rfl fc ⟨co,hco,rfl,rfl⟩ rfl fc rfl fc rfl
@[irreducible] def uh (b:List UInt8):List UInt8:=vK C64 F64 b (aw (b.length%128))
theorem sj (b:List UInt8):uh b=vK C64 F64 b (aw (b.length%128)):=by unfold uh;rfl
theorem ug (b:List UInt8):(uh b).length=64:=by
 rw[sj];unfold vK;rw[j6,jG];rfl
theorem aMI {n:Nat} {x old:List UInt8} (hx:x.length=n) (ho:old.length=n):
  x=take ((none:Option Nat).getD 0) old++take (min (take n (List.drop (addI none 0) x)).length n) (take n (List.drop (addI none 0) x))++
   List.drop ((none:Option Nat).getD 0+min (take n (List.drop (addI none 0) x)).length n) old:=by
 have e:take n (List.drop (addI none 0) x)=x:=by
  rw[qc,getD_none,zero_add,drop_zero,take_of_length_le (by omega)]
 rw[e,hx,Nat.min_self,getD_none,List.take_zero,nil_append,take_of_length_le (by omega),List.drop_of_length_le (by omega),List.append_nil]
theorem aa9 (b:List UInt8) (m:Nat) (hb:b.length=m) (hmax:m<=100000000):Sx.Fn Γ.P 86 [.slx 1000 0 0 m] [(1000,.mem false 0 [(m,.a8 b)])]
  (λv M=>v= .a8 (uh b)/\M=[(1000,.mem false 0 [(m,.a8 b)])]):=by
 have hH:=aL1 b m hb hmax;have hl:=ug b;rw[show vK C64 F64 b (aw (m%128))=uh b by rw[sj,hb]]at hH;refine aG (Γ:=Γ) (fn:=Tryz.f86) rfl rfl rfl rfl ?_;refine gB ?_;refine aH.i [[],[],[1],[0,1,2]] r_4 (by kernel_rfl) ?_;refine gB ?_;refine Call.i hH [(1000,(1000,0,none)),(1001,(1001,0,none))] rfl fc rfl fc rfl ?_;rintro v M' ⟨c,hc,rfl,rfl⟩;refine cL.i [(1001,.mem true (c-64) [(64,.a8 (uh b))])] rfl rfl ?_;refine gB ?_;refine Ret.i (.a8 (uh b)) [(1000,.mem false 0 [(m,.a8 b)])] [] rfl ?_ ⟨rfl,rfl⟩ rfl ?_ rfl ?_ rfl
 .exact fc
 .repeat' first|exact trivial|refine zA.app ?_ ?_|refine zA.zd ?_ ?_|refine zA.cons ?_ ?_|exact fc|fail
  exact aMI hl length_replicate
 exact fc
theorem zm (w:Nat) (n:UInt64) (t:List UInt8):∀k,tJ w t n k=t++tJ w [] n k
 |0=>by simp[tJ]
 |k+1=>by simp only[tJ];rw[zm w n t k,List.append_assoc]
theorem zj (n:UInt64) (t:List UInt8):∀k,qk t n k=t++qk [] n k
 |0=>by simp[qk]
 |k+1=>by simp only[qk];rw[zj n t k,List.append_assoc]
theorem aT1 (n:UInt64):tJ 16 [] n 16=replicate 8 0++qk [] n 8:=by kernel_rfl
theorem aR5:F64=H64:=by rw[aI9,aI8]
theorem aR4:R64=K64:=by rw[aI6,aI7]
theorem aGE (x:UInt64):x&&&ofNat 18446744073709551615=x:=by
 apply UInt64.toNat_inj.1;rw[UInt64.toNat_and,UInt64.toNat_ofNat'];exact Nat.and_two_pow_sub_one_of_lt_two_pow x.toNat_lt
theorem aA1 (x:UInt64):ofNat 18446744073709551615^^^x= ~~~x:=by
 rw[show ofNat 18446744073709551615=(-1:UInt64) by decide];exact UInt64.neg_one_xor
theorem aJE (x n:UInt64) (h:(64-n).toNat=64-n.toNat):tn x n 64=rT x n.toNat:=by
 unfold tn rT;rw[if_neg (by decide),h,UInt64.or_comm]
theorem s64:S64.getD 0 0=28/\S64.getD 1 0=34/\S64.getD 2 0=39/\S64.getD 3 0=14/\S64.getD 4 0=18/\S64.getD 5 0=41/\S64.getD 6 0=1/\S64.getD 7 0=8/\S64.getD 8 0=7/\S64.getD 9 0=19/\S64.getD 10 0=61/\S64.getD 11 0=6:=by
 rw[aI5];decide
theorem aOZ (w:List UInt64) (i:Nat):wN C64 w i=aSR w i:=by
 obtain⟨_,_,_,_,_,_,h6,h7,h8,h9,h10,h11⟩:=s64;unfold wN aSR thS;rw[jG];simp only[h6,h7,h8,h9,h10,h11,aGE];rw[aJE _ 1 (by decide),aJE _ 8 (by decide),aJE _ 19 (by decide),aJE _ 61 (by decide)];show w.getD (i-16) 0+(rT (w.getD (i-15) 0) 1^^^rT (w.getD (i-15) 0) 8^^^aF (w.getD (i-15) 0) 7)+w.getD (i-7) 0+(rT (w.getD (i-2) 0) 19^^^rT (w.getD (i-2) 0) 61^^^aF (w.getD (i-2) 0) 6)=_;congr 1;rw[UInt64.add_assoc,UInt64.add_comm (rT _ _^^^_^^^_),<-UInt64.add_assoc]
theorem aPS (v:List UInt64) (k w:UInt64):rdR C64 v k w=aV2 v k w:=by
 obtain⟨h0,h1,h2,h3,h4,h5,_⟩:=s64;unfold rdR aV2 aV4 aWP aPZ aSS thT;rw[jG];simp only[h0,h1,h2,h3,h4,h5,aGE,aA1];rw[aJE _ 28 (by decide),aJE _ 34 (by decide),aJE _ 39 (by decide),aJE _ 14 (by decide),aJE _ 18 (by decide),aJE _ 41 (by decide)];rfl
theorem zI (w v:List UInt64):∀i,xI C64 w v i=jw w v i
 |0=>rfl
 |i+1=>by
  simp only[xI,jw];rw[zI w v i,aPS,<-aR4,jG]
theorem aG9 (h v:List UInt64):∀i,hR C64 h v i=aHA h v i
 |0=>rfl
 |i+1=>by
  simp only[hR,aHA];rw[aG9 h v i];rw[show C64.mask=ofNat 18446744073709551615 by rw[jG],aGE]
theorem aVI (x:UInt64) (c:UInt8):x*256+c.toUInt64=aQ x 8|||c.toUInt64:=by
 have hc:=c.toNat_lt;apply UInt64.toNat_inj.1;unfold aQ;rw[UInt64.toNat_or,UInt64.toNat_add,UInt64.toNat_mul,UInt64.toNat_ofNat',UInt8.toNat_toUInt64];have e1:x.toNat*(256:UInt64).toNat%2^64=(x.toNat%2^56)<<<8:=by
  rw[show(256:UInt64).toNat=2^8 from rfl,Nat.shiftLeft_eq,show(2:Nat)^64=2^56*2^8 by decide,Nat.mul_mod_mul_right]
 have e2:x.toNat<<<8%2^64=(x.toNat%2^56)<<<8:=by
  rw[Nat.shiftLeft_eq,Nat.shiftLeft_eq,show(2:Nat)^64=2^56*2^8 by decide,Nat.mul_mod_mul_right]
 rw[e1,e2,<-Nat.shiftLeft_add_eq_or_of_lt hc];apply Nat.mod_eq_of_lt;have h3:x.toNat%2^56<2^56:=Nat.mod_lt _ (by decide);rw[Nat.shiftLeft_eq];omega
theorem aJW {b:List UInt8} {a n j:Nat} (h:j<n):((b.drop a).take n).getD j 0=b.getD (a+j) 0:=by
 rw[List.getD_eq_getElem?_getD,List.getElem?_take,if_pos h,List.getElem?_drop,List.getD_eq_getElem?_getD]
theorem aOX (all:List UInt8) (a:Nat):∀i,i<=16->∀j,j<=8->8*i+j<=128->wR C64 all a (wRs C64 all a i) i j=wC ((all.drop a).take 128) (8*i+j):=by
 have hwd:C64.wd=8:=by rw[jG]
 have hn:C64.n=80:=by rw[jG]
 have step:∀i,i<16->wRs C64 all a i=wC ((all.drop a).take 128) (8*i)->∀j,j<=8->wR C64 all a (wRs C64 all a i) i j=wC ((all.drop a).take 128) (8*i+j):=by
  intro i hi h0 j;induction j with
  |zero=>intro _;exact h0
  |succ j ih=>
   intro hj;have ih:=ih (by omega)
   show(wR C64 all a (wRs C64 all a i) i j).set i ((wR C64 all a (wRs C64 all a i) i j).getD i 0*256+(all.getD (a+C64.wd*i+j) 0).toUInt64)=
    (wC ((all.drop a).take 128) (8*i+j)).set ((8*i+j)/8) (aQ ((wC ((all.drop a).take 128) (8*i+j)).getD ((8*i+j)/8) 0) 8|||(((all.drop a).take 128).getD (8*i+j) 0).toUInt64)
   rw[ih,aVI,aJW (by omega),show(8*i+j)/8=i by omega,hwd,Nat.add_assoc]
 have all0:∀i,i<=16->wRs C64 all a i=wC ((all.drop a).take 128) (8*i):=by
  intro i;induction i with
  |zero=>intro _;show replicate C64.n 0=_;rw[hn];rfl
  |succ i ih=>
   intro hi;have h0:=ih (by omega);simp only[wRs];rw[if_neg (by omega),hwd,step i (by omega) h0 8 (le_refl _)];rfl
 intro i hi j hj h;rcases Nat.lt_or_ge i 16 with hlt|hge
 .exact step i hlt (all0 i hi) j hj
 have e1:i=16:=by omega
 have e2:j=0:=by omega
 subst e1;subst e2;exact all0 16 hi
theorem aDT (all:List UInt8) (a:Nat):∀k,k<=64->wRs C64 all a (16+k)=wD (wC ((all.drop a).take 128) 128) k
 |0,_=>aOX all a 16 (le_refl _) 0 (zero_le _) (le_refl _)
 |k+1,h=>by
  have ih:=aDT all a k (by omega);show(if 16<=16+k then(wRs C64 all a (16+k)).set (16+k) (wN C64 (wRs C64 all a (16+k)) (16+k))else _)=(wD _ k).set (16+k) (aSR (wD _ k) (16+k));rw[if_pos (by omega),ih,aOZ]
theorem aMO (h:List UInt64) (all:List UInt8) (a:Nat):aSG C64 h all a=tc h ((all.drop a).take 128):=by
 unfold aSG tc yc;rw[aG9,zI,show C64.n=16+64 by rw[jG],aDT all a 64 (le_refl _)]
theorem vl (h:List UInt64) (all:List UInt8):∀q,nG C64 h all q=ao h all q
 |0=>rfl
 |q+1=>by
  simp only[nG,ao];rw[vl h all q,aMO,show 16*C64.wd*q=128*q by rw[show C64.wd=8 by rw[jG]]]
theorem nH {h:List UInt64} {A T:List UInt8} {p:Nat} (hA:A.length=128*p):∀q,ao h (A++T) (p+q)=ao (ao h A p) T q
 |0=>by
  have:∀k,k<=p->ao h (A++T) k=ao h A k:=by
   intro k;induction k with
   |zero=>intro _;rfl
   |succ k ih=>
    intro hk;simp only[ao];rw[ih (by omega),List.drop_append_of_le_length (by omega),List.take_append_of_le_length (by rw[zlD];omega)]
  exact this p (le_refl _)
 |q+1=>by
  show tc (ao h (A++T) (p+q)) (((A++T).drop (128*(p+q))).take 128)=tc (ao (ao h A p) T q) ((T.drop (128*q)).take 128);rw[nH hA q,drop_append,List.drop_of_length_le (by omega),nil_append,hA,show 128*(p+q)-128*p=128*q by omega]
theorem yJ {h:List UInt64} {b:List UInt8} {p:Nat} (hp:128*p<=b.length):ao h (b.take (128*p)) p=ao h b p:=by
 have:=nH (h:=h) (A:=b.take (128*p)) (T:=b.drop (128*p)) (p:=p) (by rw[zlT];omega) 0;rw[List.take_append_drop]at this;exact this.symm
theorem aBY (a0 a1 a2 a3 a4 a5 a6 a7:UInt64):wH 8 [a0,a1,a2,a3,a4,a5,a6,a7] 8=il [a0,a1,a2,a3,a4,a5,a6,a7] 64:=by kernel_rfl
theorem aa3 {α:Type} {l:List α} (h:l.length=8):∃a0 a1 a2 a3 a4 a5 a6 a7,l=[a0,a1,a2,a3,a4,a5,a6,a7]:=by
 match l,h with
 |[a0,a1,a2,a3,a4,a5,a6,a7],_=>exact⟨a0,a1,a2,a3,a4,a5,a6,a7,rfl⟩
theorem aZJ (b:List UInt8):aSI 8 b (aw (b.length%128))=b.take (128*(b.length/128))++gR (b.drop (128*(b.length/128))) (ofInt (b.length:Int)):=by
 unfold aSI gR qi;rw[zm,zj,aT1,show(b.drop (128*(b.length/128))).length=b.length%128 by rw[zlD];omega]
 conv=>lhs;rw[<-List.take_append_drop (128*(b.length/128)) b]
 simp only[List.append_assoc,zlA,zlT,zlD];rw[show min (128*(b.length/128)) b.length+(b.length-128*(b.length/128))=b.length by omega]
theorem xc (b:List UInt8):uh b=ae b:=by
 rw[sj,oo];unfold vK;have hwd:C64.wd=8:=by rw[jG]
 rw[hwd,aR5,vl,aZJ];have hp:128*(b.length/128)<=b.length:=by omega
 have hA:(b.take (128*(b.length/128))).length=128*(b.length/128):=by rw[zlT];omega
 have hT:=sP (b.drop (128*(b.length/128))) (ofInt (b.length:Int));generalize gR (b.drop (128*(b.length/128))) (ofInt (b.length:Int))=T at hT⊢;rw[zlA,hA,show(128*(b.length/128)+T.length)/(16*8)=b.length/128+T.length/128 by omega,nH hA,yJ hp];have hl:=dE (dE sJ b (b.length/128)) T (T.length/128);obtain⟨a0,a1,a2,a3,a4,a5,a6,a7,he⟩:=aa3 hl;rw[he];exact aBY _ _ _ _ _ _ _ _
def up (l:List UInt32):List UInt64:=l.map UInt32.toUInt64
theorem nI {h:List UInt32} {A T:List UInt8} {p:Nat} (hA:A.length=64*p):∀q,ab h (A++T) (p+q)=ab (ab h A p) T q
 |0=>by
  have:∀k,k<=p->ab h (A++T) k=ab h A k:=by
   intro k;induction k with
   |zero=>intro _;rfl
   |succ k ih=>
    intro hk;simp only[ab];rw[ih (by omega),List.drop_append_of_le_length (by omega),List.take_append_of_le_length (by rw[zlD];omega)]
  exact this p (le_refl _)
 |q+1=>by
  show yL (ab h (A++T) (p+q)) (((A++T).drop (64*(p+q))).take 64)=yL (ab (ab h A p) T q) ((T.drop (64*q)).take 64);rw[nI hA q,drop_append,List.drop_of_length_le (by omega),nil_append,hA,show 64*(p+q)-64*p=64*q by omega]
theorem yK {h:List UInt32} {b:List UInt8} {p:Nat} (hp:64*p<=b.length):ab h (b.take (64*p)) p=ab h b p:=by
 have:=nI (h:=h) (A:=b.take (64*p)) (T:=b.drop (64*p)) (p:=p) (by rw[zlT];omega) 0;rw[List.take_append_drop]at this;exact this.symm
@[irreducible] def hw (A:List UInt8):List UInt32:=ab H32 A (A.length/64)
theorem aG6 (A:List UInt8):hw A=ab H32 A (A.length/64):=by unfold hw;rfl
theorem vE (A:List UInt8):(hw A).length=8:=by rw[aG6];exact br jb _ _
theorem sn (a b:Nat):ofInt (a:Int)+ofInt (b:Int)=ofInt ((a+b:Nat):Int):=by
 rw[Int.natCast_add,UInt64.ofInt_add]
theorem aUD {A b:List UInt8} {N m:Nat} (hA:A.length=N) (hb:b.length=m):ab (hw A) (A.drop (64*(N/64))++b) ((N%64+m)/64)=hw (A++b):=by
 rw[aG6,aG6,zlA,hA,hb];have h1:(A.take (64*(N/64))).length=64*(N/64):=by rw[zlT];omega
 have h2:=nI (h:=H32) (A:=A.take (64*(N/64))) (T:=A.drop (64*(N/64))++b) h1 ((N%64+m)/64);rw[<-List.append_assoc,List.take_append_drop,yK (by omega)]at h2;rw[<-h2];congr 1;omega
structure aAY (A:List UInt8) (N i c sp:Nat) (L:List UInt8):Prop where
 len:A.length=N
 ll:L.length=i+N%64
 drop:L.drop i=A.drop (64*(N/64))
 cap:c=N%64+sp
theorem aAH (b:List UInt8) (m:Nat) (hb:b.length=m) (hmax:m<=100000000):
  Sx.Fn Γ.P 73 [.ptr 1000 0 none,.slx 1002 0 0 m] [(1000,kM H32 .nsl 0),(1002,.mem false 0 [(m,.a8 b)])]
   (λv M=>∃i c sp L,aAY b m i c sp L/\v= .tup []/\M=[(1000,kM (hw b) (.sl 1005 0 i (m%64) c) (ofInt (m:Int))),(1002,.mem false 0 [(m,.a8 b)]),(1005,.mem true sp [(i+m%64,.a8 L)])]):=by
 refine Fn.mono (aN6 H32 b 0 m jb hb hmax) ?_;rintro v M ⟨c,hc,hv,hM⟩;refine⟨64*(m/64),c-64*(m/64),c-m,b,⟨hb,by omega,rfl,by omega⟩,hv,?_⟩;rw[hM,aG6,hb,show m-64*(m/64)=m%64 by omega,show 64*(m/64)+m%64=m by omega];rw[UInt64.zero_add]
theorem aAI (A b:List UInt8) (N m i c sp:Nat) (L:List UInt8) (h:aAY A N i c sp L) (hb:b.length=m) (hmax:m<=99999900):
  Sx.Fn Γ.P 73 [.ptr 1000 0 none,.slx 1002 0 0 m] [(1000,kM (hw A) (.sl 1001 0 i (N%64) c) (ofInt (N:Int))),(1001,.mem true sp [(i+N%64,.a8 L)]),(1002,.mem false 0 [(m,.a8 b)])]
   (λv M=>∃i' c' sp' L',aAY (A++b) (N+m) i' c' sp' L'/\v= .tup []/\
    M=[(1000,kM (hw (A++b)) (.sl 1005 0 i' ((N+m)%64) c') (ofInt ((N+m:Nat):Int))),(1001,.dead),(1002,.mem false 0 [(m,.a8 b)]),(1005,.mem true sp' [(i'+(N+m)%64,.a8 L')])]):=by
 obtain⟨h1,h2,h3,h4⟩:=h;refine Fn.mono (aUM (hw A) L b (L.drop i) (ofInt (N:Int)) i (N%64) c sp m (vE A) h2 rfl h4 hb (by omega)) ?_;rintro v M ⟨c',hc,hv,hM⟩;have hl:(L.drop i).length=N%64:=by rw[zlD];omega
 rw[hl]at hM hc;rw[h3]at hM;refine⟨64*((N%64+m)/64),c'-64*((N%64+m)/64),c'-(N%64+m),A.drop (64*(N/64))++b,⟨by rw[zlA,h1,hb],?_,?_,by omega⟩,hv,?_⟩
 .rw[zlA,zlD,h1,hb];omega
 .rw[drop_append,drop_append,List.drop_drop,zlD,h1]
  rw[show 64*(N/64)+64*((N%64+m)/64)=64*((N+m)/64) by omega,show 64*((N%64+m)/64)-(N-64*(N/64))=64*((N+m)/64)-N by omega]
 rw[hM,aUD h1 hb,sn,show N%64+m-64*((N%64+m)/64)=(N+m)%64 by omega,show 64*((N%64+m)/64)+(N+m)%64=N%64+m by omega];rfl
theorem aAG (A:List UInt8) (N i c sp:Nat) (L:List UInt8) (h:aAY A N i c sp L):
  Sx.Fn Γ.P 74 [.ptr 1000 0 none] [(1000,.mem false 0 [(8,.a32 (hw A)),(1,.slx 1001 0 i (N%64)),(1,.u64 (ofInt (N:Int)))]),(1001,.mem false 0 [(i+N%64,.a8 L)])]
   (λv M=>v= .a8 (ej A)/\M=[(1000,.mem false 0 [(8,.a32 (hw A)),(1,.slx 1001 0 i (N%64)),(1,.u64 (ofInt (N:Int)))]),(1001,.mem false 0 [(i+N%64,.a8 L)])]):=by
 obtain⟨h1,h2,h3,h4⟩:=h;have e:(L.drop i).take (N%64)=A.drop (64*(N/64)):=by
  rw[h3,take_of_length_le];rw[zlD,h1];omega
 refine Fn.mono (aYE (hw A) L (A.drop (64*(N/64))) (ofInt (N:Int)) (i+N%64) i (N%64) (vE A) h2 (le_refl _) e (by omega)) ?_;rintro v M ⟨hv,hM⟩;refine⟨?_,hM⟩;rw[hv,oq,h1,<-h1,<-aG6,h1,UInt64.zero_add]
def aNY (key:List UInt8):List UInt8:=if 64<key.length then ej key else key
def aBX (kb:List UInt8):List UInt8:=kb++replicate (64-kb.length) 0
@[irreducible] def q7 (key text:List UInt8):List UInt8:=
 ej ((aBX (aNY key)).map (·^^^92)++ej ((aBX (aNY key)).map (·^^^54)++text))
theorem aG7 (key text:List UInt8):q7 key text=ej ((aBX (aNY key)).map (·^^^92)++ej ((aBX (aNY key)).map (·^^^54)++text)):=by unfold q7;rfl
theorem dR (key text:List UInt8):(q7 key text).length=32:=by rw[aG7];exact cr _
theorem xq (key:List UInt8):(aNY key).length<=64:=by
 unfold aNY;split
 .rw[cr];omega
 omega
theorem pN {kb:List UInt8} (h:kb.length<=64):(aBX kb).length=64:=by unfold aBX;rw[zlA,length_replicate];omega
def xoS (p:List UInt8) (c:UInt8):Nat->List UInt8
 |0=>p
 |i+1=>(xoS p c i).set i ((xoS p c i).getD i 0^^^c)
theorem fF (p:List UInt8) (c:UInt8):∀i,(xoS p c i).length=p.length
 |0=>rfl
 |i+1=>by simp only[xoS,length_set,fF p c i]
theorem aDM (p:List UInt8) (c:UInt8):∀i,i<=p.length->∀j,(xoS p c i)[j]? =if j<i then(p[j]?).map (·^^^c)else p[j]?
 |0,_,j=>by rw[if_neg (by omega)];rfl
 |i+1,h,j=>by
  have ih:=aDM p c i (by omega);simp only[xoS];by_cases hj:i=j
  .subst hj
   rw[List.getElem?_set_self (by rw[fF];omega),if_pos (by omega),List.getD_eq_getElem?_getD,ih i,if_neg (by omega),List.getElem?_eq_getElem (by omega)];rfl
  rw[List.getElem?_set_ne hj,ih j];by_cases h1:j<i
  .rw[if_pos h1,if_pos (by omega)]
  rw[if_neg h1,if_neg (by omega)]
theorem sM (p:List UInt8) (c:UInt8):xoS p c p.length=p.map (·^^^c):=by
 apply List.ext_getElem?;intro j;rw[aDM p c p.length (le_refl _),List.getElem?_map];split
 .rfl
 rw[List.getElem?_eq_none (by omega)];rfl
theorem tW {kb:List UInt8} (h:kb.length<=64):aBX kb=take ((none:Option Nat).getD 0) (replicate 64 0)++take (min (take kb.length (List.drop 0 kb)).length 64) (take kb.length (List.drop 0 kb))++
  List.drop ((none:Option Nat).getD 0+min (take kb.length (List.drop 0 kb)).length 64) (replicate 64 0):=by
 rw[drop_zero,List.take_length,Nat.min_eq_left h,List.take_length,getD_none,List.take_zero,nil_append,zero_add,List.drop_replicate];rfl
theorem aYI (key text:List UInt8) (n m:Nat) (hk:key.length=n) (ht:text.length=m) (hn:n<=50000000) (hm:m<=50000000):
  Sx.Fn Γ.P 34 [.slx 1000 0 0 n,.slx 1001 0 0 m] [(1000,.mem false 0 [(n,.a8 key)]),(1001,.mem false 0 [(m,.a8 text)])]
   (λv M=>v= .a8 (q7 key text)/\M=[(1000,.mem false 0 [(n,.a8 key)]),(1001,.mem false 0 [(m,.a8 text)])]):=by
 refine cV [4] (Γ:=Γ) (fn:=Tryz.f34) rfl rfl rfl rfl ?_;have hS:=aYF key n hk (by omega);have hsl:=cr key;have hH:=aG7 key text;have hHl:=dR key text;have hkb:=xq key;refine gB ?_;refine zB.i ?_ ?_<;>intro hc
 .have hc:(n:Int)>64:=hc
  have hkk:aNY key=ej key:=if_pos (by omega);rw[hkk]at hH hkb;clear hkk;generalize ej key=kb at hS hsl hH hkb;refine gB ?_;refine Call.i hS [(1002,(1000,0,none))] rfl fc rfl fc rfl ?_;rintro _ _ ⟨rfl,rfl⟩;refine gB ?_
  refine Cut.i (σ:=Unit) (λ_=>True) (λ_=>([(0,.slx 400 0 0 kb.length),(1,.slx 1001 0 0 m),(4,.ptr 4 0 none)],
   [(1000,.mem false 0 [(n,.a8 key)]),(1001,.mem false 0 [(m,.a8 text)]),(400,.mem false 0 [(kb.length,.a8 kb)]),(4,.mem true 0 [(32,.a8 (replicate 32 0))])])) () trivial ?_ ?_
  .refine Le.i [(400,(5,0,none))] rfl fc rfl fc rfl
  rintro _ _;obtain⟨P,hP⟩:∃x,x=aBX kb:=⟨_,rfl⟩;have hPl:P.length=64:=by rw[hP,pN hkb]
  refine gB ?_
  refine aY.i (σ:=Nat) (λi=>i<=64)
   (λi=>([(1,.slx 1001 0 0 m),(4,.ptr 4 0 none),(6,.ptr 6 0 none),(7,.ptr 7 0 none),(23,.i .i64 i)],
    [(1000,.mem false 0 [(n,.a8 key)]),(1001,.mem false 0 [(m,.a8 text)]),(4,.mem true 0 [(32,.a8 (replicate 32 0))]),(6,.mem true 0 [(64,.a8 (xoS P 54 i))]),(7,.mem true 0 [(64,.a8 (xoS P 92 i))])])) (λi=>64-i) 0 (zero_le _) ?_ ?_
  .have hz1:xoS P 54 0=aBX kb:=hP
   have hz2:xoS P 92 0=aBX kb:=hP;refine Le.i [] rfl ?_ rfl ?_ rfl
   .exact fc
   repeat' first|exact trivial|refine zA.app ?_ ?_|refine zA.zd ?_ ?_|refine zA.cons ?_ ?_|exact fc|fail
   .exact hz1.trans (tW hkb)
   exact hz2.trans (tW hkb)
  rintro i hi;have hx1:=fF P 54 i;have hx2:=fF P 92 i;refine zB.i ?_ ?_<;>intro hc
  .have hc:(i:Int)<64:=hc
   have hy1:xoS P 54 (i+1)=(xoS P 54 i).set i ((xoS P 54 i).getD i 0^^^54):=rfl;have hy2:xoS P 92 (i+1)=(xoS P 92 i).set i ((xoS P 92 i).getD i 0^^^92):=rfl;generalize xoS P 54 i=X1 at *;generalize xoS P 92 i=X2 at *;refine gC ?_;refine⟨i+1,by omega,by omega,Le.i [] rfl fc rfl fcn rfl⟩
  have h64:i=64:=by have hc:¬(i:Int)<64:=hc;omega
  have hm1:=sM P 54;have hm2:=sM P 92;rw[hPl,<-h64]at hm1 hm2;rw[<-hP,<-hm1,<-hm2]at hH;rw[hPl]at hx1 hx2;generalize xoS P 54 i=X1 at *;generalize xoS P 92 i=X2 at *;clear hm1 hm2 h64 hc;have hN1:=aAH X1 64 hx1 (by omega);have hN2:=aAH X2 64 hx2 (by omega);refine Call.i aWC [(1001,(501,0,none))] rfl trivial rfl trivial rfl ?_;rintro _ _ ⟨rfl,rfl⟩;refine gB ?_;refine Call.i hN1 [(1000,(501,0,none)),(1002,(6,0,none)),(1005,(502,0,none))] rfl fc rfl fc rfl ?_;rintro v M' ⟨j1,c1,p1,L1,ok1,rfl,rfl⟩;have hC1:=aAI X1 text 64 m j1 c1 p1 L1 ok1 ht (by omega);refine gB ?_;refine Call.i hC1 [(1000,(501,0,none)),(1001,(502,0,none)),(1002,(1001,0,none)),(1005,(503,0,none))] rfl fc rfl fc rfl ?_;rintro v M' ⟨j2,c2,p2,L2,ok2,rfl,rfl⟩;have hS2:=aAG (X1++text) (64+m) j2 c2 p2 L2 ok2;have hs2:=cr (X1++text);generalize ej (X1++text)=in2 at hS2 hs2 hH;refine gB ?_;refine Call.i hS2 [(1000,(501,0,none)),(1001,(503,0,none))] rfl fc rfl fc rfl ?_;rintro _ _ ⟨rfl,rfl⟩;refine gB ?_;refine Call.i aWC [(1001,(511,0,none))] rfl trivial rfl trivial rfl ?_;rintro _ _ ⟨rfl,rfl⟩;refine gB ?_;refine Call.i hN2 [(1000,(511,0,none)),(1002,(7,0,none)),(1005,(512,0,none))] rfl fc rfl fc rfl ?_;rintro v M' ⟨j3,c3,p3,L3,ok3,rfl,rfl⟩;have hC3:=aAI X2 in2 64 32 j3 c3 p3 L3 ok3 hs2 (by omega);refine gB ?_;refine Call.i hC3 [(1000,(511,0,none)),(1001,(512,0,none)),(1002,(10,0,none)),(1005,(513,0,none))] rfl fc rfl fc rfl ?_;rintro v M' ⟨j4,c4,p4,L4,ok4,rfl,rfl⟩;have hS4:=aAG (X2++in2) (64+32) j4 c4 p4 L4 ok4;rw[<-hH]at hS4;generalize q7 key text=out at hS4 hHl;refine gB ?_;refine Call.i hS4 [(1000,(511,0,none)),(1001,(513,0,none))] rfl fc rfl fc rfl ?_;rintro _ _ ⟨rfl,rfl⟩;refine gB ?_;refine Ret.i (.a8 out) [(1000,.mem false 0 [(n,.a8 key)]),(1001,.mem false 0 [(m,.a8 text)])] [] rfl fc ⟨rfl,rfl⟩ rfl fc rfl fc rfl
 have hc:¬(n:Int)>64:=hc;have hkk:aNY key=key:=if_neg (by omega);rw[hkk]at hH hkb;clear hkk
 refine Cut.i (σ:=Unit) (λ_=>True) (λ_=>([(0,.slx 400 0 0 key.length),(1,.slx 1001 0 0 m),(4,.ptr 4 0 none)],
  [(1000,.mem false 0 [(n,.a8 key)]),(1001,.mem false 0 [(m,.a8 text)]),(400,.mem false 0 [(key.length,.a8 key)]),(4,.mem true 0 [(32,.a8 (replicate 32 0))])])) () trivial ?_ ?_
 .refine Le.i [(400,(1000,0,none))] rfl fc rfl fc rfl
 rintro _ _;obtain⟨P,hP⟩:∃x,x=aBX key:=⟨_,rfl⟩;have hPl:P.length=64:=by rw[hP,pN hkb]
 refine gB ?_
 refine aY.i (σ:=Nat) (λi=>i<=64)
  (λi=>([(1,.slx 1001 0 0 m),(4,.ptr 4 0 none),(6,.ptr 6 0 none),(7,.ptr 7 0 none),(23,.i .i64 i)],
   [(1000,.mem false 0 [(n,.a8 key)]),(1001,.mem false 0 [(m,.a8 text)]),(4,.mem true 0 [(32,.a8 (replicate 32 0))]),(6,.mem true 0 [(64,.a8 (xoS P 54 i))]),(7,.mem true 0 [(64,.a8 (xoS P 92 i))])])) (λi=>64-i) 0 (zero_le _) ?_ ?_
 .have hz1:xoS P 54 0=aBX key:=hP
  have hz2:xoS P 92 0=aBX key:=hP;refine Le.i [] rfl ?_ rfl ?_ rfl
  .exact fc
  repeat' first|exact trivial|refine zA.app ?_ ?_|refine zA.zd ?_ ?_|refine zA.cons ?_ ?_|exact fc|fail
  .exact hz1.trans (tW hkb)
  exact hz2.trans (tW hkb)
 rintro i hi;have hx1:=fF P 54 i;have hx2:=fF P 92 i;refine zB.i ?_ ?_<;>intro hc
 .have hc:(i:Int)<64:=hc
  have hy1:xoS P 54 (i+1)=(xoS P 54 i).set i ((xoS P 54 i).getD i 0^^^54):=rfl;have hy2:xoS P 92 (i+1)=(xoS P 92 i).set i ((xoS P 92 i).getD i 0^^^92):=rfl;generalize xoS P 54 i=X1 at *;generalize xoS P 92 i=X2 at *;refine gC ?_;refine⟨i+1,by omega,by omega,Le.i [] rfl fc rfl fcn rfl⟩
 have h64:i=64:=by have hc:¬(i:Int)<64:=hc;omega
 have hm1:=sM P 54;have hm2:=sM P 92;rw[hPl,<-h64]at hm1 hm2;rw[<-hP,<-hm1,<-hm2]at hH;rw[hPl]at hx1 hx2;generalize xoS P 54 i=X1 at *;generalize xoS P 92 i=X2 at *;clear hm1 hm2 h64 hc;have hN1:=aAH X1 64 hx1 (by omega);have hN2:=aAH X2 64 hx2 (by omega);refine Call.i aWC [(1001,(501,0,none))] rfl trivial rfl trivial rfl ?_;rintro _ _ ⟨rfl,rfl⟩;refine gB ?_;refine Call.i hN1 [(1000,(501,0,none)),(1002,(6,0,none)),(1005,(502,0,none))] rfl fc rfl fc rfl ?_;rintro v M' ⟨j1,c1,p1,L1,ok1,rfl,rfl⟩;have hC1:=aAI X1 text 64 m j1 c1 p1 L1 ok1 ht (by omega);refine gB ?_;refine Call.i hC1 [(1000,(501,0,none)),(1001,(502,0,none)),(1002,(1001,0,none)),(1005,(503,0,none))] rfl fc rfl fc rfl ?_;rintro v M' ⟨j2,c2,p2,L2,ok2,rfl,rfl⟩;have hS2:=aAG (X1++text) (64+m) j2 c2 p2 L2 ok2;have hs2:=cr (X1++text);generalize ej (X1++text)=in2 at hS2 hs2 hH;refine gB ?_;refine Call.i hS2 [(1000,(501,0,none)),(1001,(503,0,none))] rfl fc rfl fc rfl ?_;rintro _ _ ⟨rfl,rfl⟩;refine gB ?_;refine Call.i aWC [(1001,(511,0,none))] rfl trivial rfl trivial rfl ?_;rintro _ _ ⟨rfl,rfl⟩;refine gB ?_;refine Call.i hN2 [(1000,(511,0,none)),(1002,(7,0,none)),(1005,(512,0,none))] rfl fc rfl fc rfl ?_;rintro v M' ⟨j3,c3,p3,L3,ok3,rfl,rfl⟩;have hC3:=aAI X2 in2 64 32 j3 c3 p3 L3 ok3 hs2 (by omega);refine gB ?_;refine Call.i hC3 [(1000,(511,0,none)),(1001,(512,0,none)),(1002,(10,0,none)),(1005,(513,0,none))] rfl fc rfl fc rfl ?_;rintro v M' ⟨j4,c4,p4,L4,ok4,rfl,rfl⟩;have hS4:=aAG (X2++in2) (64+32) j4 c4 p4 L4 ok4;rw[<-hH]at hS4;generalize q7 key text=out at hS4 hHl;refine gB ?_;refine Call.i hS4 [(1000,(511,0,none)),(1001,(513,0,none))] rfl fc rfl fc rfl ?_;rintro _ _ ⟨rfl,rfl⟩;refine gB ?_;refine Ret.i (.a8 out) [(1000,.mem false 0 [(n,.a8 key)]),(1001,.mem false 0 [(m,.a8 text)])] [] rfl fc ⟨rfl,rfl⟩ rfl fc rfl fc rfl
end Go.Proofs.YtaehfiohjkiajaaGreat
