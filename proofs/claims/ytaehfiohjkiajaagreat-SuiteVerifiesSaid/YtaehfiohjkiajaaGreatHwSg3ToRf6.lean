/- Walks. -/
import Derived.Test.YtaehfiohjkiajaaGreatHwScR4ToSg2
import Derived.Test.YtaehfiohjkiajaaGreatHwSc1ToScP2
import Derived.Test.YtaehfiohjkiajaaGreatHwCu10ToTm1
set_option linter.unusedSimpArgs false
set_option linter.unusedVariables false
set_option maxHeartbeats 4000000
open List (replicate getD_eq_getElem?_getD take length_set drop)
open Nat (le_refl zero_le div_div_eq_div_mul lt_or_ge zero_add not_lt_zero pow_mul)
open UInt8 (ofInt toNat_ofNat' ofNat)
open Int (add_mul)
set_option maxRecDepth 100000
namespace Go.Proofs.YtaehfiohjkiajaaGreat
open Go Go.Sx Go.Cu
@[irreducible] def vkB (pub q sg:List UInt8):List UInt8:=haB (sg.take 32++pub++q)
theorem aDX (pub q sg:List UInt8):vkB pub q sg=haB (sg.take 32++pub++q):=by unfold vkB;rfl
theorem aA5 (pub q sg:List UInt8):(vkB pub q sg).length=32:=by rw[aDX];exact fJ _
@[irreducible] def vrP (pub k s:List UInt8):Pt:=(pS s).add ((vg pub).mul (lv k)).ng
theorem aMZ (pub k s:List UInt8):vrP pub k s=(pS s).add ((vg pub).mul (lv k)).ng:=by unfold vrP;rfl
@[irreducible] def vrE (pub k s:List UInt8):List UInt8:=rD (vrP pub k s)
theorem aDW (pub k s:List UInt8):vrE pub k s=rD (vrP pub k s):=by unfold vrE;rfl
theorem aA4 (pub k s:List UInt8):(vrE pub k s).length=32:=by rw[aDW];exact kQ _
def vrf (pub q sg:List UInt8):Prop:=okD pub/\sf (sg.drop 32)=sg.drop 32/\vrE pub (vkB pub q sg) (sg.drop 32)=sg.take 32
theorem aaS {X:List UInt8} (h:X.length=32):take 0 (replicate 32 (0:UInt8))++take 32 X++drop 32 (replicate 32 0)=X:=by
 rw[List.take_of_length_le (l:=X) (by omega)];show[]++X++[]=X;rw[List.nil_append,List.append_nil]
theorem aJO (pub q sg:List UInt8) (n:Nat) (hp:pub.length=32) (hq:q.length=n) (hn:n<=4097) (hs:sg.length=64) (hok:okD pub) (hr:sf (sg.drop 32)=sg.drop 32) (o:PL) (ho:PR o (vg pub)) (T:Tm) (M:Mm)
  (hle:Le [] [(1,.isl 0 n 1 [(n,.a8 q)]),(3,.ptr 203 0 none),(7,.ptr 207 0 none),(9,.ptr 209 0 none),(10,.ptr 210 0 none)]
   [(203,.mem false 1 [(32,.a8 pub)]),(207,.mem true 0 [(5,.a64 o.x),(5,.a64 o.y),(5,.a64 o.z),(5,.a64 o.t),(1,.bool True)]),(209,.mem true 0 [(32,.a8 (sg.drop 32))]),(210,.mem false 1 [(32,.a8 (sg.take 32))])] T M):
  aSJ Γ [7] Tryz.f26 7 [] T M (λv _=>v= .bool (vrf pub q sg)):=by
 obtain⟨o1,o2,o3,o4⟩:=ho.1.len;have lr:(sg.take 32).length=32:=by rw[zlT,hs];rfl
 have ls:(sg.drop 32).length=32:=by rw[zlD,hs]
 have hv:vrf pub q sg↔vrE pub (vkB pub q sg) (sg.drop 32)=sg.take 32:=⟨λh=>h.2.2,λh=>⟨hok,hr,h⟩⟩;have eK:=aDX pub q sg;have lK:=aA5 pub q sg;have lE:=aA4 pub (vkB pub q sg) (sg.drop 32);have eE:=aDW pub (vkB pub q sg) (sg.drop 32);have eP:=aMZ pub (vkB pub q sg) (sg.drop 32);generalize vrf pub q sg=V at *;generalize sg.take 32=r at *;generalize sg.drop 32=z at *;have hq0:paB (0,n,q)=q:=by unfold paB;rw[List.drop_zero];exact List.take_of_length_le (by show q.length<=n;omega)
 have hp0:∀X:List UInt8,X.length=32->paB (0,32,X)=X:=λX hX=>by unfold paB;rw[List.drop_zero];exact List.take_of_length_le (by show X.length<=32;omega)
 have cH:=abR [(0,32,r),(0,32,pub),(0,n,q)] 3 (r++pub++q) rfl (by omega) (λx hx=>by
  rcases List.mem_cons.1 hx with rfl|hx
  .exact⟨by show 0+32<=r.length;omega,by show r.length<=_;omega⟩
  rcases List.mem_cons.1 hx with rfl|hx
  .exact⟨by show 0+32<=pub.length;omega,by show pub.length<=_;omega⟩
  rw[List.mem_singleton.1 hx];exact⟨by show 0+n<=q.length;omega,by show q.length<=_;omega⟩) (by show paB _++(paB _++(paB _++[]))=_;rw[hp0 _ lr,hp0 _ hp,hq0,List.append_nil,List.append_assoc])
 rw[<-eK]at cH;clear eK;generalize vkB pub q sg=K at *;unfold paS at cH;have cB:=aaD;have cM1:=λb hb=>aHI z ls b hb;have cM2:=abQ K lK o True _ ho.ps
 refine Cut.i (σ:=Unit) (λ_=>True) (λ_=>([(1,.isl 0 n 1 [(n,.a8 q)]),(3,.ptr 203 0 none),(7,.ptr 207 0 none),(9,.ptr 209 0 none),(10,.ptr 210 0 none)],
   [(203,.mem false 1 [(32,.a8 pub)]),(207,.mem true 0 [(5,.a64 o.x),(5,.a64 o.y),(5,.a64 o.z),(5,.a64 o.t),(1,.bool True)]),(209,.mem true 0 [(32,.a8 z)]),(210,.mem false 1 [(32,.a8 r)])])) () trivial hle ?_
 rintro - -;refine aH.i [[],[],[],[0,1,2],r_4,[],r_6] [0,1,2,3,5,4,6] (by kernel_rfl) ?_;refine gA ?_;refine Call.name [(2001,[])] rfl ?_ (kW.i cH [(1003,(2001,0,none))] rfl ?_ rfl ?_ rfl ?_)
 .exact fc
 .exact fc
 .repeat' first|exact trivial|refine zA.app ?_ ?_|refine zA.zd ?_ ?_|refine zA.cons ?_ ?_|exact fc|fail
  .exact ul rfl lr
  .exact ul rfl hp
  exact ul rfl hq
 rintro _ _ ⟨rfl,rfl⟩;refine gN ?_;refine gA ?_;refine aH.i [[],[],[0,1],[],[],r_5,r_6,r_7,r_8,[],ek,fe] [0,3,4,9,1,2,5,6,7,8,10,11] (by kernel_rfl) ?_;refine gA ?_;refine Call.pure cB rfl fc ?_;rintro v ⟨b,hb,rfl⟩;obtain⟨b1,b2,b3,b4⟩:=hb.1.len;have cM1:=cM1 b hb;unfold ptV at cM1;unfold ptV;refine gA ?_;refine Call.pure cM1 rfl fc ?_;rintro v ⟨p,s1,hp1,rfl⟩;obtain⟨p1,p2,p3,p4⟩:=hp1.1;unfold ptV at cM2;refine gA ?_;refine Call.pure cM2 rfl fc ?_;rintro v ⟨a,s2,ha,rfl⟩;obtain⟨a1,a2,a3,a4⟩:=ha.1;have cN:=aaB a s2 _ ha;unfold ptV at cN;refine gA ?_;refine Call.pure cN rfl fc ?_;rintro v ⟨c,hc,rfl⟩;obtain⟨c1,c2,c3,c4⟩:=hc.1.len;have cA:=abK p c s1 True _ _ hp1 hc.ps;rw[<-eP]at cA;unfold ptV at cA;refine gA ?_;refine Call.pure cA rfl fc ?_;rintro v ⟨d,hd,rfl⟩;obtain⟨d1,d2,d3,d4⟩:=hd.1.len;have cE:=aUU d True _ hd.ps;rw[<-eE]at cE;unfold ptV at cE;generalize vrE pub K z=E at *;refine gA ?_;refine Call.pure cE rfl fc ?_;intro v hv1;subst hv1;refine gA ?_;refine Ret.i (.bool V) [] [] rfl ?_ rfl rfl ?_ rfl ?_ rfl
 .exact fc
 .repeat' first|exact trivial|refine zA.app ?_ ?_|refine zA.zd ?_ ?_|refine zA.cons ?_ ?_|exact fc|fail
  all_goals exact hv
 exact fc
theorem aaI (pub q sg:List UInt8) (n:Nat) (hp:pub.length=32) (hq:q.length=n) (hn:n<=4097) (hs:sg.length=64):Sx.Fn Γ.P 26 [.a8 pub,.isl 0 n 1 [(n,.a8 q)],.a8 sg] [] (λv _=>v= .bool (vrf pub q sg)):=by
 have cD:=aYG pub hp;have lr:(sg.take 32).length=32:=by rw[zlT,hs];rfl
 have ls:(sg.drop 32).length=32:=by rw[zlD,hs]
 have cR:=abL (sg.drop 32) ls;unfold aWI pt0 ptV at cD;refine cV [5,7] (Γ:=Γ) (fn:=Tryz.f26) rfl rfl rfl rfl ?_;refine gB ?_;refine Call.pure cD rfl fc ?_;rintro v (⟨hok,o,ho,rfl⟩|⟨hok,rfl⟩)
 .obtain⟨o1,o2,o3,o4⟩:=ho.1.len
  refine gB ?_;refine aH.i [[],[],[0,1]] [0,1,2] (by kernel_rfl) ?_;refine gA ?_;refine aH.i [[],[],[0,1]] [0,1,2] (by kernel_rfl) ?_;refine gA ?_
  refine Cut.i (σ:=Unit) (λ_=>True) (λ_=>([(1,.isl 0 n 1 [(n,.a8 q)]),(3,.ptr 203 0 none),(7,.ptr 207 0 none),(8,.tt),(9,.ptr 209 0 none),(10,.ptr 210 0 none)],
   [(203,.mem true 0 [(32,.a8 pub)]),(207,.mem true 0 [(5,.a64 o.x),(5,.a64 o.y),(5,.a64 o.z),(5,.a64 o.t),(1,.bool True)]),(209,.mem true 0 [(32,.a8 (sg.drop 32))]),(210,.mem true 0 [(32,.a8 (sg.take 32))])])) () trivial
   (Le.i [(203,(3,0,none)),(207,(7,0,none)),(209,(9,0,none)),(210,(10,0,none))] rfl ?_ rfl ?_ rfl) ?_
  .exact fc
  .repeat' first|exact trivial|refine zA.app ?_ ?_|refine zA.zd ?_ ?_|refine zA.cons ?_ ?_|exact fc|fail
   .have e:take 32 (drop 32 sg)=drop 32 sg:=List.take_of_length_le (by omega)
    show sg.drop 32=take 0 (replicate 32 (0:UInt8))++take (min (take 32 (drop 32 sg)).length 32) (take 32 (drop 32 sg))++drop (0+min (take 32 (drop 32 sg)).length 32) (replicate 32 0);rw[e,ls];exact(aaS ls).symm
   show sg.take 32=take 0 (replicate 32 (0:UInt8))++take (min (take 32 (drop 0 sg)).length 32) (take 32 (drop 0 sg))++drop (0+min (take 32 (drop 0 sg)).length 32) (replicate 32 0);rw[List.drop_zero,lr];exact(aaS lr).symm
  rintro - -;refine gB ?_;refine Call.pure cR rfl fc ?_;rintro _ rfl;refine gB ?_;refine zB.i ?_ ?_<;>intro h
  .have h:¬sf (sg.drop 32)=sg.drop 32:=h
   refine gB ?_;refine Ret.i (.bool (vrf pub q sg)) [] [] rfl ?_ rfl rfl ?_ rfl ?_ rfl
   .exact fc
   .repeat' first|exact trivial|refine zA.app ?_ ?_|refine zA.zd ?_ ?_|refine zA.cons ?_ ?_|exact fc|fail
    all_goals exact(λe=>h e.2.1)
   exact fc
  have h:sf (sg.drop 32)=sg.drop 32:=Classical.not_not.1 h;refine aJO pub q sg n hp hq hn hs hok h o ho _ _ (Le.ghost [.keep 203,.keep 210] [] [] rfl fc rfl rfl fc rfl fc rfl)
 refine gB ?_;refine aH.i [[],[],[0,1]] [0,1,2] (by kernel_rfl) ?_;refine gA ?_;refine aH.i [[],[],[0,1]] [0,1,2] (by kernel_rfl) ?_;refine gA ?_;refine Cut.i (σ:=Unit) (λ_=>True) (λ_=>([(8,.ff)],[])) () trivial (Le.i [] rfl fc rfl fc rfl) ?_;rintro - -;refine gB ?_;refine Ret.i (.bool (vrf pub q sg)) [] [] rfl ?_ rfl rfl ?_ rfl ?_ rfl
 .exact fc
 .repeat' first|exact trivial|refine zA.app ?_ ?_|refine zA.zd ?_ ?_|refine zA.cons ?_ ?_|exact fc|fail
  all_goals exact(λh=>hok h.1)
 exact fc
open Go Go.Sx Go.Cu
def dgN (v:Nat):Nat->List Int
 |0=>[]
 |n+1=>((v%65536:Nat):Int)::dgN (v/65536) n
theorem jZ:∀n v,(dgN v n).length=n
 |0,_=>rfl
 |n+1,v=>by show(dgN (v/65536) n).length+1=n+1;rw[jZ n]
theorem tU:∀n v i,i<n->(dgN v n).getD i 0=((v/65536^i%65536:Nat):Int)
 |n+1,v,0,_=>by show((v%65536:Nat):Int)=((v/1%65536:Nat):Int);rw[Nat.div_one]
 |n+1,v,i+1,h=>by
  show(dgN (v/65536) n).getD i 0=_;rw[tU n (v/65536) i (by omega),div_div_eq_div_mul,Nat.pow_succ']
theorem aH7 (n v:Nat):Dig (dgN v n):=by
 intro i;rcases lt_or_ge i n with h|h
 .rw[tU n v i h]
  have:=Nat.mod_lt (v/65536^i) (show 0<65536 by decide);omega
 rw[cG (by rw[jZ];exact h)];decide
theorem aH5 (x:Int) (l:List Int):∀n,dv (x::l) (n+1)=x+65536*dv l n
 |0=>by show(0:Int)+x*1=x+65536*0;omega
 |n+1=>by
  show dv (x::l) (n+1)+l.getD n 0*65536^(n+1)=x+65536*(dv l n+l.getD n 0*65536^n);rw[aH5 x l n,Int.pow_succ,Int.mul_add];generalize (65536:Int)^n=p;have:l.getD n 0*(p*65536)=65536*(l.getD n 0*p):=by rw[<-Int.mul_assoc,Int.mul_comm]
  omega
theorem x9:∀n v,dv (dgN v n) n=((v%65536^n:Nat):Int)
 |0,v=>by rw[Nat.pow_zero,Nat.mod_one];rfl
 |n+1,v=>by
  show dv (((v%65536:Nat):Int)::dgN (v/65536) n) (n+1)=_;rw[aH5,x9 n,Nat.pow_succ',Nat.mod_mul];omega
theorem aMD {l:List Int} {v n:Nat} (hl:l.length=n) (hd:Dig l) (h:dv l n=((v%65536^n:Nat):Int)):l=dgN v n:=by
 have e:=aOF hd (aH7 n v) (n:=n) (by rw[x9,h]);apply List.ext_getElem (by rw[hl,jZ]);intro i h1 h2;have:=e i (by omega);rw[getD_eq_getElem?_getD,getD_eq_getElem?_getD,List.getElem?_eq_getElem h1,List.getElem?_eq_getElem h2]at this;exact this
@[irreducible] def nmN (v:Nat):List Int:=dgN v 16
theorem pZ (v:Nat):nmN v=dgN v 16:=by unfold nmN;rfl
theorem aR (v:Nat):(nmN v).length=16:=by rw[pZ];exact jZ _ _
theorem kB (v:Nat):Dig (nmN v):=by rw[pZ];exact aH7 _ _
theorem pb (v:Nat) {i:Nat} (h:i<16):(nmN v).getD i 0=((v/65536^i%65536:Nat):Int):=by rw[pZ];exact tU _ _ _ h
theorem p16:(65536:Nat)^16=115792089237316195423570985008687907853269984665640564039457584007913129639936:=by decide
theorem aTC:(65536:Int)^16=115792089237316195423570985008687907853269984665640564039457584007913129639936:=by decide
theorem aFY {v:Nat} (h:v<115792089237316195423570985008687907853269984665640564039457584007913129639936):dv (nmN v) 16=(v:Int):=by
 rw[pZ,x9,p16,Nat.mod_eq_of_lt h]
theorem jQ {l:List Int} {v:Nat} (hl:l.length=16) (hd:Dig l) (h:dv l 16=(v:Int)):l=nmN v:=by
 rw[pZ];refine aMD hl hd ?_;have hb:=(aJ hd 16).2;rw[h]at hb;rw[h,Nat.mod_eq_of_lt];have e:((65536:Int)^16)=(((65536:Nat)^16:Nat):Int):=by decide
 rw[e]at hb;omega
def nmF (x:F):List Int:=nmN x.val
theorem aC (x:F):(nmF x).length=16:=aR _
theorem iG (x:F):Dig (nmF x):=kB _
theorem aYY (x:F):x.val<115792089237316195423570985008687907853269984665640564039457584007913129639936:=Nat.lt_trans x.isLt (by decide)
theorem ip (x:F):dv (nmF x) 16=(x.val:Int):=aFY (aYY x)
theorem pc {x y:F} (h:nmF x=nmF y):x=y:=by
 have:=ip x;rw[h,ip y]at this;exact Fin.ext (by omega)
theorem aMG {d l:List Int} {n i:Nat} {c:Int} (hl:l.length=n) (hi:i<n) (hold:∀j,i<=j->l.getD j 0=d.getD j 0) (hv:dv l i+c*65536^i=dv d i) (_hc:0<=c):
  dv (l.set i ((c+l.getD i 0)%65536)) (i+1)+(c+l.getD i 0)/65536*65536^(i+1)=dv d (i+1)
  /\∀j,i+1<=j->(l.set i ((c+l.getD i 0)%65536)).getD j 0=d.getD j 0:=by
 refine⟨?_,λj hj=>?_⟩
 .rw[ar (by omega)]
  show _=dv d i+d.getD i 0*65536^i;rw[hold i (le_refl _),<-hv,Int.pow_succ];generalize d.getD i 0=x;generalize (65536:Int)^i=p;have e:=Int.emod_add_mul_ediv (c+x) 65536;generalize (c+x)%65536=r at *;generalize (c+x)/65536=q at *;have e2:(r + 65536 * q) * p = r * p + q * (p * 65536):=by grind
  rw[e]at e2;rw[add_mul]at e2;omega
 rw[aA (by omega)];exact hold j (by omega)
theorem aH6 {l:List Int} {n i:Nat} {x:Int} (hl:l.length=n) (_hi:i<n) (h:∀j,j<i->0<=l.getD j 0/\l.getD j 0<65536):∀j,j<i+1->0<=(l.set i (x%65536)).getD j 0/\(l.set i (x%65536)).getD j 0<65536:=by
 intro j hj;by_cases hji:i=j
 .subst hji
  rw[aE (by omega)];exact⟨Int.emod_nonneg _ (by decide),Int.emod_lt_of_pos _ (by decide)⟩
 rw[aA hji];exact h j (by omega)
theorem aRK {l:List Int} {n:Nat} (hl:l.length=n) (h:∀j,j<n->0<=l.getD j 0/\l.getD j 0<65536):Dig l:=by
 intro j;rcases lt_or_ge j n with hj|hj
 .exact h j hj
 rw[cG (by omega)];decide
theorem aRJ {l:List Int} (h:Dig l) (x:Int):Dig (l++[x%65536]):=by
 intro j;have h0:=Int.emod_nonneg x (show(65536:Int)≠0 by decide);have h1:=Int.emod_lt_of_pos x (show(0:Int)<65536 by decide);rcases Nat.lt_trichotomy j l.length with hj|hj|hj
 .rw[getD_eq_getElem?_getD,List.getElem?_append_left hj,<-getD_eq_getElem?_getD];exact h j
 .rw[getD_eq_getElem?_getD,List.getElem?_append_right (by omega),hj,Nat.sub_self]
  exact⟨h0,h1⟩
 rw[cG (by rw[zlA];show l.length+1<=j;omega)];decide
theorem aRH {l:List Int} {x:Int} {n:Nat} (h:n<=l.length):dv (l++[x]) n=dv l n:=
 fr λi hi=>by rw[getD_eq_getElem?_getD,List.getElem?_append_left (by omega),<-getD_eq_getElem?_getD]
theorem aMS {l:List Int} {m:Nat} {c v:Int} (hl:l.length=m) (hv:dv l m+c*65536^m=v):dv (l++[c%65536]) (m+1)+c/65536*65536^(m+1)=v:=by
 show dv (l++[c%65536]) m+(l++[c%65536]).getD m 0*65536^m+_=v;rw[aRH (by omega),getD_eq_getElem?_getD,List.getElem?_append_right (by omega),hl,Nat.sub_self,<-hv,Int.pow_succ];show dv l m+(c%65536)*_+_=_;generalize (65536:Int)^m=p;have e:=Int.emod_add_mul_ediv c 65536;generalize c%65536=r at *;generalize c/65536=q at *;rw [<- e];grind
theorem aMT {l:List Int} {m:Nat} {c v:Int} (hd:Dig l) (hv:dv l m+c*65536^m=v) (hc:0<c) (hm:v<65536^32):m<32:=by
 apply Classical.byContradiction;intro h;have h0:=(aJ hd m).1;have hp:(65536:Int)^32<=65536^m:=by
  have:(65536:Nat)^32<=65536^m:=Nat.pow_le_pow_right (by decide) (by omega);have e1:((65536:Int)^32)=(((65536:Nat)^32:Nat):Int):=by rw[Int.natCast_pow];rfl
  have e2:((65536:Int)^m)=(((65536:Nat)^m:Nat):Int):=by rw[Int.natCast_pow];rfl
  rw[e1,e2];exact Int.ofNat_le.2 this
 have h1:1*65536^m<=c*65536^m:=Int.mul_le_mul_of_nonneg_right (by omega) (by have:=pI m;omega);omega
theorem x8 (l:List Int) (k:Nat):∀n,dv l (k+n)=dv l k+65536^k*dv (l.drop k) n
 |0=>by show dv l k=dv l k+65536^k*0;omega
 |n+1=>by
  show dv l (k+n)+l.getD (k+n) 0*65536^(k+n)=dv l k+65536^k*(dv (l.drop k) n+(l.drop k).getD n 0*65536^n);rw[x8 l k n,Int.pow_add];have e:(l.drop k).getD n 0=l.getD (k+n) 0:=by rw[getD_eq_getElem?_getD,List.getElem?_drop,<-getD_eq_getElem?_getD]
  rw[e];generalize (65536:Int)^k=p;generalize (65536:Int)^n=q
  grind
theorem nE {l:List Int} {i n:Nat} {x:Int} (hl:l.length=n) (hi:i<n):dv (l.set i (l.getD i 0+x)) n=dv l n+x*65536^i:=by
 have h:∀m,i<m->dv (l.set i (l.getD i 0+x)) m=dv l m+x*65536^i:=by
  intro m;induction m with
  |zero=>intro h;omega
  |succ m ih=>
   intro hm;by_cases h2:i=m
   .subst h2
    rw[ar (by omega)];show _=dv l i+l.getD i 0*65536^i+x*65536^i;rw[add_mul];omega
   show dv (l.set i (l.getD i 0+x)) m+(l.set i (l.getD i 0+x)).getD m 0*65536^m=dv l m+l.getD m 0*65536^m+x*65536^i;rw[ih (by omega),aA (by omega)];omega
 exact h n hi
structure FoI (d e:List Int) (i:Nat):Prop where
 len:e.length=16
 val:dv e 16=dv d (min i 16)+38*dv (d.drop 16) (i-16)
 nn:∀j,0<=e.getD j 0
 zero:∀j,i<=j->e.getD j 0=0
 one:∀j,i<=j+16->e.getD j 0<65536
 two:∀j,e.getD j 0<=2555865
theorem aX6 (d:List Int):FoI d (replicate 16 0) 0:=by
 have hz:∀j,(replicate 16 (0:Int)).getD j 0=0:=by
  intro j;rw[getD_eq_getElem?_getD,List.getElem?_replicate];split <;>rfl
 refine⟨rfl,by rw[vf];rfl,λj=>?_,λj _=>hz j,λj _=>?_,λj=>?_⟩<;>rw[hz j]<;>decide
theorem aQ4 {d e:List Int} {i:Nat} (h:FoI d e i) (hd:Dig d) (hi:i<16):FoI d (e.set i (e.getD i 0+d.getD i 0)) (i+1):=by
 obtain⟨h1,h2,h3,h4,h5,h6⟩:=h;have z:=h4 i (le_refl _);obtain⟨x0,x1⟩:=hd i;refine⟨by rw[length_set];exact h1,?_,λj=>?_,λj hj=>?_,λj hj=>?_,λj=>?_⟩
 .rw[nE h1 hi,h2,Nat.min_eq_left (by omega),Nat.min_eq_left (by omega),show i-16=0 by omega,show i+1-16=0 by omega]
  show _=dv d i+d.getD i 0*65536^i+_;omega
 .by_cases hj:i=j
  .subst hj;rw[aE (by omega),z];omega
  rw[aA hj];exact h3 j
 .rw[aA (by omega)];exact h4 j (by omega)
 .by_cases hj:i=j
  .subst hj;rw[aE (by omega),z];omega
  rw[aA hj];exact h5 j (by omega)
 by_cases hj:i=j
 .subst hj;rw[aE (by omega),z];omega
 rw[aA hj];exact h6 j
theorem aLO {d e:List Int} {i:Nat} (h:FoI d e i) (hd:Dig d) (hi:16<=i) (hi2:i<32):FoI d (e.set (i-16) (e.getD (i-16) 0+38*d.getD i 0)) (i+1):=by
 obtain⟨h1,h2,h3,h4,h5,h6⟩:=h;have z:=h5 (i-16) (by omega);have n0:=h3 (i-16);obtain⟨x0,x1⟩:=hd i;refine⟨by rw[length_set];exact h1,?_,λj=>?_,λj hj=>?_,λj hj=>?_,λj=>?_⟩
 .rw[nE h1 (by omega),h2,Nat.min_eq_right (by omega),Nat.min_eq_right (by omega),show i+1-16=i-16+1 by omega]
  show _=dv d 16+38*(dv (d.drop 16) (i-16)+(d.drop 16).getD (i-16) 0*65536^(i-16));have e:(d.drop 16).getD (i-16) 0=d.getD i 0:=by rw[getD_eq_getElem?_getD,List.getElem?_drop,<-getD_eq_getElem?_getD];congr 1;omega
  rw[e,Int.mul_add,Int.mul_assoc];omega
 .by_cases hj:i-16=j
  .subst hj;rw[aE (by omega)];omega
  rw[aA hj];exact h3 j
 .rw[aA (by omega)];exact h4 j (by omega)
 .rw[aA (by omega)];exact h5 j (by omega)
 by_cases hj:i-16=j
 .subst hj;rw[aE (by omega)];omega
 rw[aA hj];exact h6 j
theorem aQ5 {d e:List Int} {m:Nat} (h:FoI d e m) (hd:Dig d) (hm:16<=m):dv e 16<=dv d m/\0<=dv e 16/\dv e 16%57896044618658097711785492504343953926634992332820282019728792003956564819949=dv d m%57896044618658097711785492504343953926634992332820282019728792003956564819949:=by
 have hv:=h.val;rw[Nat.min_eq_right hm]at hv;have hs:=x8 d 16 (m-16);rw[show 16+(m-16)=m by omega,aTC]at hs;have hdd:Dig (d.drop 16):=by
  intro j;rw[getD_eq_getElem?_getD,List.getElem?_drop,<-getD_eq_getElem?_getD];exact hd _
 have b1:=(aJ hdd (m-16)).1;have b0:=(aJ hd 16).1;generalize dv (d.drop 16) (m-16)=x at *;rw[hv,hs];generalize dv d 16=y at *;refine⟨by omega,by omega,?_⟩;have e:y+115792089237316195423570985008687907853269984665640564039457584007913129639936*x=y+38*x+57896044618658097711785492504343953926634992332820282019728792003956564819949*(2*x):=by omega
 rw[e,Int.add_mul_emod_self_left]
def prD:List Int:=[65517,65535,65535,65535,65535,65535,65535,65535,65535,65535,65535,65535,65535,65535,65535,32767]
theorem aND:prD=nmN aB:=jQ rfl (by
  intro i
  match i with
  |0|1|2|3|4|5|6|7|8|9|10|11|12|13|14|15=>exact⟨by decide,by decide⟩
  | n + 16=>rw [cG (by show 16 <= n + 16;omega)];decide) (by decide +kernel)
theorem jy:Dig prD:=by rw[aND];exact kB _
theorem xL:dv prD 16 = 57896044618658097711785492504343953926634992332820282019728792003956564819949:=by decide +kernel
def fz (v:Int):F:=fn (v.toNat)
theorem aUH {a b:Int} (ha:0<=a) (hb:0<=b) (h:a%57896044618658097711785492504343953926634992332820282019728792003956564819949=b%57896044618658097711785492504343953926634992332820282019728792003956564819949):fz a=fz b:=by
 unfold fz;refine aN3 ?_;unfold aB;omega
theorem aAF (v:Nat):fz (v:Int)=fn v:=by unfold fz;rw[zIn]
theorem aLI {l:List Int} (hl:l.length=16) (hd:Dig l) (h:dv l 16<57896044618658097711785492504343953926634992332820282019728792003956564819949):l=nmF (fz (dv l 16)):=by
 have h0:=(aJ hd 16).1;unfold nmF fz;refine jQ hl hd ?_;rw[qH,Nat.mod_eq_of_lt (by unfold aB;omega),Int.toNat_of_nonneg h0]
open Go Go.Sx Go.Cu
structure MuI (a b d:List Int) (i k:Nat):Prop where
 len:d.length=31
 val:dv d 31=dv a i*dv b 16+a.getD i 0*65536^i*dv b k
 nn:∀j,0<=d.getD j 0
 hi:∀j,d.getD j 0<=(i+1)*4294836225
 lo:∀j,i+k<=j->d.getD j 0<=i*4294836225
theorem aXS (a b:List Int):MuI a b (replicate 31 0) 0 0:=by
 have hz:∀j,(replicate 31 (0:Int)).getD j 0=0:=by
  intro j;rw[getD_eq_getElem?_getD,List.getElem?_replicate];split <;>rfl
 refine⟨rfl,?_,λj=>?_,λj=>?_,λj _=>?_⟩
 .rw[vf];show(0:Int)=0*dv b 16+_*0;omega
 .rw[hz j];decide
 .rw[hz j];decide
 rw[hz j];decide
theorem aNC {x y:Int} (hx:0<=x) (hx1:x<65536) (hy:0<=y) (hy1:y<65536):0<=x*y/\x*y<=4294836225:=by
 have h1:x*y<=65535*y:=Int.mul_le_mul_of_nonneg_right (by omega) hy;exact⟨Int.mul_nonneg hx hy,by omega⟩
theorem aKX {a b d:List Int} {i k:Nat} (h:MuI a b d i k) (ha:Dig a) (hb:Dig b) (hi:i<16) (hk:k<16):MuI a b (d.set (i+k) (d.getD (i+k) 0+a.getD i 0*b.getD k 0)) i (k+1):=by
 obtain⟨h1,h2,h3,h4,h5⟩:=h;have z:=h5 (i+k) (le_refl _);have n0:=h3 (i+k);obtain⟨x0,x1⟩:=ha i;obtain⟨y0,y1⟩:=hb k;obtain⟨p0,p1⟩:=aNC x0 x1 y0 y1;have e:((i:Int)+1)*4294836225=i*4294836225+4294836225:=by omega
 refine⟨by rw[length_set];exact h1,?_,λj=>?_,λj=>?_,λj hj=>?_⟩
 .rw[nE h1 (by omega),h2]
  show _=dv a i*dv b 16+a.getD i 0*65536^i*(dv b k+b.getD k 0*65536^k);rw[Int.pow_add];generalize (65536:Int)^i=p;generalize (65536:Int)^k=q
  grind
 .by_cases hj:i+k=j
  .subst hj;rw[aE (by omega)];omega
  rw[aA hj];exact h3 j
 .by_cases hj:i+k=j
  .subst hj;rw[aE (by omega)];omega
  rw[aA hj];exact h4 j
 rw[aA (by omega)];exact h5 j (by omega)
theorem aQE {a b d:List Int} {i:Nat} (h:MuI a b d i 16):MuI a b d (i+1) 0:=by
 obtain⟨h1,h2,h3,h4,h5⟩:=h;refine⟨h1,?_,h3,λj=>?_,λj _=>?_⟩
 .rw[h2]
  show _=(dv a i+a.getD i 0*65536^i)*dv b 16+_*0;rw[add_mul];omega
 .have:=h4 j;omega
 have:=h4 j;omega
theorem aQF {a b d:List Int} (h:MuI a b d 16 0):dv d 31=dv a 16*dv b 16/\∀j,d.getD j 0<35184372088832:=by
 obtain⟨h1,h2,h3,h4,h5⟩:=h;refine⟨?_,λj=>?_⟩
 .rw[h2];show _+_*0=_;omega
 have:=h4 j;omega
theorem aTR {e i:Nat} (hi:i<256):((nmN e).getD (i/16) 0/2^(i%16)).toNat&&&1=e/2^i%2:=by
 rw[pb e (by omega)];have e1:(((e/65536^(i/16)%65536:Nat):Int)/2^(i%16)).toNat=e/65536^(i/16)%65536/2^(i%16):=by
  have:((2:Int)^(i%16))=((2^(i%16):Nat):Int):=by rw[Int.natCast_pow];rfl
  rw[this,<-Int.natCast_ediv,zIn]
 rw[e1,show(1:Nat)=2^1-1 from rfl,Nat.and_two_pow_sub_one_eq_mod];have e2:(2:Nat)^i=65536^(i/16)*2^(i%16):=by
  rw[show(65536:Nat)=2^16 from rfl,<-pow_mul,<-Nat.pow_add];congr 1;omega
 rw[e2,<-div_div_eq_div_mul];generalize e/65536^(i/16)=w;have hm:i%16<16:=Nat.mod_lt _ (by omega);generalize i%16=m at hm;have:m=0\/m=1\/m=2\/m=3\/m=4\/m=5\/m=6\/m=7\/m=8\/m=9\/m=10\/m=11\/m=12\/m=13\/m=14\/m=15:=by omega
 rcases this with rfl|rfl|rfl|rfl|rfl|rfl|rfl|rfl|rfl|rfl|rfl|rfl|rfl|rfl|rfl|rfl<;>(simp only[Nat.reducePow];omega)
theorem aS8 (a:F) (e i:Nat):pw a (e/2^i)=if e/2^i%2=1 then pw a (e/2^(i+1))*pw a (e/2^(i+1))*a else pw a (e/2^(i+1))*pw a (e/2^(i+1)):=by
 have h:e/2^(i+1)=e/2^i/2:=by rw[Nat.pow_succ,div_div_eq_div_mul]
 rw[h,<-rZ];generalize e/2^i=x;split
 .have:x=x/2+x/2+1:=by omega
  conv=>lhs;rw[this]
  rfl
 congr 1;omega
def hfS (l:List Int):Nat->List Int
 |0=>l
 |i+1=>if i<15 then((hfS l i).set i ((hfS l i).getD i 0/2)).set i (((hfS l i).set i ((hfS l i).getD i 0/2)).getD i 0+(hfS l i).getD (i+1) 0%2*32768)else(hfS l i).set i ((hfS l i).getD i 0/2)
theorem jW {l:List Int} (h:l.length=16):∀i,(hfS l i).length=16
 |0=>h
 |i+1=>by simp only[hfS];split <;>simp only[length_set,jW h i]
theorem xy {l:List Int} (h:l.length=16) (hd:Dig l):∀i,i<=16->(∀j,i<=j->(hfS l i).getD j 0=l.getD j 0)/\(∀j,j<i->(hfS l i).getD j 0=(l.getD j 0+65536*l.getD (j+1) 0)/2%65536)
 |0,_=>⟨λ_ _=>rfl,λj hj=>by omega⟩
 |i+1,hi=>by
  obtain⟨h1,h2⟩:=xy h hd i (by omega);have hl:=jW h i;have hx:=h1 i (le_refl _);have hy:=h1 (i+1) (by omega);obtain⟨x0,x1⟩:=hd i;obtain⟨y0,y1⟩:=hd (i+1);simp only[hfS];rw[hx,hy];split
  .refine⟨λj hj=>?_,λj hj=>?_⟩
   .rw[aA (by omega),aA (by omega)];exact h1 j (by omega)
   by_cases hji:i=j
   .subst hji
    rw[aE (by rw[length_set];omega),aE (by omega)];omega
   rw[aA hji,aA hji];exact h2 j (by omega)
  refine⟨λj hj=>?_,λj hj=>?_⟩
  .rw[aA (by omega)];exact h1 j (by omega)
  by_cases hji:i=j
  .subst hji
   rw[aE (by omega)];have:l.getD (i+1) 0=0:=cG (by omega);omega
  rw[aA hji];exact h2 j (by omega)
theorem vZ {A B:List Int} {n:Nat} (ha:A.length=n) (hb:B.length=n) (h:∀i,i<n->A.getD i 0=B.getD i 0):A=B:=by
 apply List.ext_getElem (by rw[ha,hb]);intro i h1 h2;have:=h i (by omega);rw[getD_eq_getElem?_getD,getD_eq_getElem?_getD,List.getElem?_eq_getElem h1,List.getElem?_eq_getElem h2]at this;exact this
theorem aQ3 {e:Nat} (h:e<115792089237316195423570985008687907853269984665640564039457584007913129639936):hfS (nmN e) 16=nmN (e/2):=by
 refine vZ (n:=16) (jW (aR e) 16) (aR _) λi hi=>?_;rw[(xy (aR e) (kB e) 16 (le_refl _)).2 i hi,pb e hi,pb (e/2) hi];have e2:(nmN e).getD (i+1) 0=((e/65536^i/65536%65536:Nat):Int):=by
  rw[div_div_eq_div_mul,<-Nat.pow_succ];by_cases h15:i+1<16
  .rw[pb e h15]
  obtain rfl:i=15:=by omega
  rw[cG (by rw[aR];omega),Nat.div_eq_of_lt (by omega)];rfl
 have e3:e/2/65536^i=e/65536^i/2:=by rw[div_div_eq_div_mul,Nat.mul_comm 2,<-div_div_eq_div_mul]
 rw[e2,e3];generalize e/65536^i=w;omega
open Go Go.Sx Go.Cu
theorem aL2:Sx.Fn Γ.P 133 [] [] (λv _=>v= .ai prD):=by
 refine aG (Γ:=Γ) (fn:=Tryz.f133) rfl rfl rfl rfl ?_;refine gB ?_;refine Ret.i (.ai prD) [] [] rfl fc rfl rfl fc rfl fc rfl
theorem ab9 (a b:List Int) (ha:Dig a) (hb:Dig b) (hla:a.length=16) (hlb:b.length=16):
  Sx.Fn Γ.P 148 [.ai a,.ai b] [] (λv _=>v= .bool (dv a 16<dv b 16)):=by
 refine aG (Γ:=Γ) (fn:=Tryz.f148) rfl rfl rfl rfl ?_;refine gB ?_
 refine aY.i (σ:=Nat) (λk=>k<=16/\∀j,16-k<=j->j<16->a.getD j 0=b.getD j 0)
  (λk=>([(2,.ptr 2 0 none),(3,.ptr 3 0 none),(5,.i .i64 (15-(k:Int)))],[(2,.mem true 0 [(16,.ai a)]),(3,.mem true 0 [(16,.ai b)])])) (λk=>16-k) 0 ⟨zero_le _,λj h1 h2=>by omega⟩ ?_ ?_
 .refine Le.i [] rfl fc rfl ?_ rfl
  exact fc
 rintro k ⟨hk,hs⟩;refine zB.i ?_ ?_<;>intro hc
 .have hc:(15-(k:Int))≥0:=hc
  have e0:(15-(k:Int)).toNat=15-k:=by omega
  refine aH.i [[],[0],[0,1],[],[3],[3,4],r_6] r_7 (by kernel_rfl) ?_
  repeat refine sdF ?_
  refine zB.i ?_ ?_<;>intro hd
  .have hd:¬a.getD (fL 0 (15-(k:Int)).toNat) 0=b.getD (fL 0 (15-(k:Int)).toNat) 0:=hd
   rw[zQ,zero_add,e0]at hd;refine aH.i [[],[0],[0,1],[],[3],[3,4],r_6,r_7] r_8 (by kernel_rfl) ?_
   repeat refine sdF ?_
   refine Ret.i (.bool (dv a 16<dv b 16)) [] [] rfl trivial rfl rfl ?_ rfl ?_ rfl
   .show dv a 16<dv b 16↔a.getD (fL 0 (15-(k:Int)).toNat) 0<b.getD (fL 0 (15-(k:Int)).toNat) 0
    rw[zQ,zero_add,e0];have h1:∀j,15-k<j->j<16->a.getD j 0=b.getD j 0:=λj h1 h2=>hs j (by omega) h2;constructor
    .intro h
     rcases Int.lt_or_le (a.getD (15-k) 0) (b.getD (15-k) 0)with h2|h2
     .exact h2
     have:=aMB hb ha (n:=16) (i:=15-k) (by omega) (by omega) λj h3 h4=>(h1 j h3 h4).symm;omega
    intro h;exact aMB ha hb (by omega) h h1
   exact fc
  have hd:¬¬a.getD (fL 0 (15-(k:Int)).toNat) 0=b.getD (fL 0 (15-(k:Int)).toNat) 0:=hd;rw[zQ,zero_add,e0]at hd;refine gB ?_;refine⟨k+1,⟨by omega,λj h1 h2=>?_⟩,by omega,Le.i [] rfl fc rfl ?_ rfl⟩
  .by_cases hj:j=15-k
   .subst hj;omega
   exact hs j (by omega) h2
  exact fc
 have hc:¬(15-(k:Int))≥0:=hc;have e:dv a 16=dv b 16:=fr λi hi=>hs i (by omega) hi;refine gB ?_;refine Ret.i (.bool (dv a 16<dv b 16)) [] [] rfl trivial rfl rfl ?_ rfl ?_ rfl
 .show¬dv a 16<dv b 16
  omega
 exact fc
theorem aL3 (a b:List Int) (ha:Dig a) (hb:Dig b) (hla:a.length=16) (hlb:b.length=16):
  Sx.Fn Γ.P 132 [.ai a,.ai b] [] (λv _=>v= .ai (sbS a b 16).1):=by
 refine aG (Γ:=Γ) (fn:=Tryz.f132) rfl rfl rfl rfl ?_;refine gB ?_
 refine aY.i (σ:=Nat) (λi=>i<=16)
  (λi=>([(2,.ptr 2 0 none),(3,.ptr 3 0 none),(4,.ptr 4 0 none),(5,.i .i64 (sbS a b i).2),(6,.i .i64 i)],[(2,.mem true 0 [(16,.ai (sbS a b i).1)]),(3,.mem true 0 [(16,.ai b)]),(4,.mem true 0 [(16,.ai (replicate 16 0))])])) (λi=>16-i) 0 (zero_le _) ?_ ?_
 .have z1:(sbS a b 0).1=a:=rfl
  have z2:(sbS a b 0).2=0:=rfl;refine Le.i [] rfl fc rfl fc rfl
 rintro i hi;obtain⟨s1,s2,s3⟩:=mR ha hb i;have sl:=bT a b i;rw[hla]at sl;refine zB.i ?_ ?_<;>intro hc
 .have hc:(i:Int)<16:=hc
  have hai:=s1 i;have hbi:=hb i
  have hx:sbS a b (i+1)=if(sbS a b i).1.getD i 0-b.getD i 0-(sbS a b i).2<0 then((sbS a b i).1.set i ((sbS a b i).1.getD i 0-b.getD i 0-(sbS a b i).2+65536),1)
   else((sbS a b i).1.set i ((sbS a b i).1.getD i 0-b.getD i 0-(sbS a b i).2),0):=rfl
  generalize (sbS a b i).1=X at *;generalize (sbS a b i).2=C at *;refine aH.i [[],[0],[0,1],[],[3],[3,4],r_6,[],r_8,r_9] ek (by kernel_rfl) ?_;refine gC ?_;refine zB.i ?_ ?_<;>intro hd
  .have hd:X.getD (fL 0 (i:Int).toNat) 0-b.getD (fL 0 (i:Int).toNat) 0-C<0:=hd
   rw[zQ,zero_add,zIn]at hd;rw[if_pos hd]at hx;have hx1:(sbS a b (i+1)).1=X.set i (X.getD i 0-b.getD i 0-C+65536):=by rw[hx]
   have hx2:(sbS a b (i+1)).2=1:=by rw[hx]
   clear hx;refine gC ?_;refine⟨i+1,by omega,by omega,Le.i [] rfl fcn rfl fcn rfl⟩
  have hd:¬X.getD (fL 0 (i:Int).toNat) 0-b.getD (fL 0 (i:Int).toNat) 0-C<0:=hd;rw[zQ,zero_add,zIn]at hd;rw[if_neg hd]at hx;have hx1:(sbS a b (i+1)).1=X.set i (X.getD i 0-b.getD i 0-C):=by rw[hx]
  have hx2:(sbS a b (i+1)).2=0:=by rw[hx]
  clear hx;refine gC ?_;refine⟨i+1,by omega,by omega,Le.i [] rfl fcn rfl fcn rfl⟩
 obtain rfl:i=16:=by have hc:¬(i:Int)<16:=hc;omega
 generalize (sbS a b 16).1=X at *;refine gB ?_;refine Ret.i (.ai X) [] [] rfl fc rfl rfl fc rfl fc rfl
theorem oE {a b:List Int} (ha:Dig a) (hb:Dig b) (hla:a.length=16) (h:dv b 16<=dv a 16):
  (sbS a b 16).1.length=16/\Dig (sbS a b 16).1/\dv (sbS a b 16).1 16=dv a 16-dv b 16:=by
 have hv:=wy a b 16 (by omega);obtain⟨s1,s2,s3⟩:=mR ha hb 16;obtain⟨b1,b2⟩:=aJ s1 16;have hc:(sbS a b 16).2=0:=by
  rcases Int.lt_or_le (sbS a b 16).2 1 with h3|h3
  .omega
  have h4:(sbS a b 16).2=1:=by omega
  rw[h4]at hv;omega
 rw[hc]at hv;exact⟨by rw[bT];exact hla,s1,by omega⟩
open Go Go.Sx Go.Cu
theorem aTD {m:Nat} (h:16<=m):(115792089237316195423570985008687907853269984665640564039457584007913129639936:Int)<=65536^m:=by
 have:(65536:Nat)^16<=65536^m:=Nat.pow_le_pow_right (by decide) h;have e2:((65536:Int)^m)=(((65536:Nat)^m:Nat):Int):=by rw[Int.natCast_pow];rfl
 rw[e2,<-aTC,show((65536:Int)^16)=(((65536:Nat)^16:Nat):Int) by decide];exact Int.ofNat_le.2 this
theorem aR2 {l:List Int} {m:Nat} {c v:Int} (hd:Dig l) (hv:dv l m+c*65536^m=v) (hc:0<c) (hm:16<=m):115792089237316195423570985008687907853269984665640564039457584007913129639936<=v:=by
 have h0:=(aJ hd m).1;have h1:1*65536^m<=c*65536^m:=Int.mul_le_mul_of_nonneg_right (by omega) (by have:=pI m;omega);have h2:=aTD hm;omega
theorem aLN {d e:List Int} {m:Nat} (h:FoI d e m) (hd:Dig d) (hm:16<=m) (hv:115792089237316195423570985008687907853269984665640564039457584007913129639936<=dv d m):dv e 16+100<dv d m:=by
 have hv2:=h.val;rw[Nat.min_eq_right hm]at hv2;have hs:=x8 d 16 (m-16);rw[show 16+(m-16)=m by omega,aTC]at hs;have b0:=(aJ hd 16).2;rw[aTC]at b0;generalize dv (d.drop 16) (m-16)=x at *;rw[hs]at hv⊢;rw[hv2];generalize dv d 16=y at *;omega
theorem aHL (d:List Int) (n c0:Nat) (hl:d.length=n) (hn:n<=31) (hnc:n<=c0) (hd:∀j,0<=d.getD j 0/\d.getD j 0<35184372088832) (h0:0<=dv d n) (hv:dv d n<65536^32):
  Sx.Fn Γ.P 131 [.sl 1000 0 0 n c0] [(1000,.mem true (c0-n) [(n,.ai d)])] (λv M=>v= .ai (nmF (fz (dv d n)))/\M=[(1000,.dead)]):=by
 have hP:=aL2;have hpl:prD.length=16:=rfl;have pd:=jy;have pv:=xL;obtain⟨prime,hprime⟩:∃p,prD=p:=⟨_,rfl⟩;rw[hprime]at hP hpl pd pv;refine aG (Γ:=Γ) (fn:=Tryz.f131) rfl rfl rfl rfl ?_;refine gB ?_
 refine aY.i (σ:=List Int×Nat×Nat) (λs=>s.1.length=s.2.1/\s.2.1<=s.2.2/\s.2.1<=31/\(∀j,0<=s.1.getD j 0/\s.1.getD j 0<35184372088832)/\0<=dv s.1 s.2.1/\dv s.1 s.2.1<65536^32
   /\dv s.1 s.2.1%57896044618658097711785492504343953926634992332820282019728792003956564819949=dv d n%57896044618658097711785492504343953926634992332820282019728792003956564819949)
  (λs=>([(0,.sl 203 0 0 s.2.1 s.2.2),(2,.ptr 2 0 none),(3,.ptr 3 0 none)],
   [(1000,.dead),(203,.mem true (s.2.2-s.2.1) [(s.2.1,.ai s.1)]),(2,.mem true 0 [(16,.ai (replicate 16 0))]),(3,.mem true 0 [(16,.ai (replicate 16 0))])]))
  (λs=>(dv s.1 s.2.1).toNat+s.2.1) (d,n,c0) ⟨hl,hnc,hn,hd,h0,hv,rfl⟩ ?_ ?_
 .refine Le.i [(203,(1000,0,none))] rfl fc rfl fc rfl
 rintro⟨d1,n1,c1⟩ ⟨hl1,hnc1,hn1,hd1,h01,hv1,hm1⟩;have hl1:d1.length=n1:=hl1;have hnc1:n1<=c1:=hnc1;have hn1:n1<=31:=hn1;have hd1:∀j,0<=d1.getD j 0/\d1.getD j 0<35184372088832:=hd1;have h01:0<=dv d1 n1:=h01;have hv1:dv d1 n1<65536^32:=hv1;have hm1:dv d1 n1%57896044618658097711785492504343953926634992332820282019728792003956564819949=dv d n%57896044618658097711785492504343953926634992332820282019728792003956564819949:=hm1;clear hv hd hnc hn hl;refine gB ?_
 refine aY.i (σ:=List Int×Nat×Int) (λs=>s.1.length=n1/\s.2.1<=n1/\(∀j,j<s.2.1->0<=s.1.getD j 0/\s.1.getD j 0<65536)/\(∀j,s.2.1<=j->s.1.getD j 0=d1.getD j 0)/\dv s.1 s.2.1+s.2.2*65536^s.2.1=dv d1 s.2.1/\0<=s.2.2/\s.2.2<35184372088832)
  (λs=>([(0,.sl 203 0 0 n1 c1),(2,.ptr 2 0 none),(3,.ptr 3 0 none),(4,.i .i64 s.2.2),(5,.i .i64 s.2.1)],
   [(1000,.dead),(203,.mem true (c1-n1) [(n1,.ai s.1)]),(2,.mem true 0 [(16,.ai (replicate 16 0))]),(3,.mem true 0 [(16,.ai (replicate 16 0))])]))
  (λs=>n1-s.2.1) (d1,0,0) ⟨hl1,zero_le _,λj hj=>absurd hj (not_lt_zero _),λ_ _=>rfl,by show(0:Int)+0*65536^0=0;decide,Int.le_refl _,by show(0:Int)<35184372088832;decide⟩ ?_ ?_
 .refine Le.i [] rfl fc rfl fc rfl
 rintro⟨l,i,c⟩ ⟨a1,a2,a3,a4,a5,a6,a7⟩;have a1:l.length=n1:=a1;have a2:i<=n1:=a2;have a3:∀j,j<i->0<=l.getD j 0/\l.getD j 0<65536:=a3;have a4:∀j,i<=j->l.getD j 0=d1.getD j 0:=a4;have a5:dv l i+c*65536^i=dv d1 i:=a5;have a6:0<=c:=a6;have a7:c<35184372088832:=a7;refine zB.i ?_ ?_<;>intro hc
 .have hc:(i:Int)<n1:=hc
  have hx:=a4 i (le_refl _);have hy:=hd1 i;rw[<-hx]at hy;refine gC ?_;obtain⟨b1,b2⟩:=aMG a1 (by omega) a4 a5 a6;refine⟨(l.set i ((c+l.getD i 0)%65536),i+1,(c+l.getD i 0)/65536),⟨by rw[length_set];exact a1,by show i+1<=n1;omega,aH6 a1 (by omega) a3,b2,b1,by show 0<=(c+l.getD i 0)/65536;omega,by show(c+l.getD i 0)/65536<35184372088832;omega⟩,by show n1-(i+1)<n1-i;omega,Le.i [] rfl fcn rfl fcn rfl⟩
 obtain rfl:i=n1:=by have hc:¬(i:Int)<n1:=hc;omega
 have ad:=aRK a1 a3;refine gB ?_
 refine aY.i (σ:=List Int×Nat×Nat×Int) (λs=>s.1.length=s.2.1/\s.2.1<=s.2.2.1/\Dig s.1/\dv s.1 s.2.1+s.2.2.2*65536^s.2.1=dv d1 i/\0<=s.2.2.2/\s.2.2.2<35184372088832/\s.2.1<=32/\(s.2.1<=16\/s.2.1=i\/115792089237316195423570985008687907853269984665640564039457584007913129639936<=dv d1 i))
  (λs=>([(0,.sl 204 0 0 s.2.1 s.2.2.1),(2,.ptr 2 0 none),(3,.ptr 3 0 none),(4,.i .i64 s.2.2.2)],
   [(1000,.dead),(204,.mem true (s.2.2.1-s.2.1) [(s.2.1,.ai s.1)]),(2,.mem true 0 [(16,.ai (replicate 16 0))]),(3,.mem true 0 [(16,.ai (replicate 16 0))])]))
  (λs=>s.2.2.2.toNat) (l,i,c1,c) ⟨a1,hnc1,ad,a5,a6,a7,by show i<=32;omega,Or.inr (Or.inl rfl)⟩ ?_ ?_
 .refine Le.i [(204,(203,0,none))] rfl fc rfl fc rfl
 clear a1 a2 a3 a4 a5 a6 a7 ad hc;rintro⟨l,m,k,c⟩ ⟨a1,a2,a3,a4,a5,a6,a7,a8⟩;have a1:l.length=m:=a1;have a2:m<=k:=a2;have a3:Dig l:=a3;have a4:dv l m+c*65536^m=dv d1 i:=a4;have a5:0<=c:=a5;have a6:c<35184372088832:=a6;have a7:m<=32:=a7;have a8:m<=16\/m=i\/115792089237316195423570985008687907853269984665640564039457584007913129639936<=dv d1 i:=a8;refine zB.i ?_ ?_<;>intro hc
 .have hc:0<c:=hc
  have hm:=aMT a3 a4 hc hv1;have hA:=aMS a1 a4;refine gB ?_;refineλc' hc'=>?_;have hc':m+1<=c':=hc';refine gB ?_;refine⟨(l++[c%65536],m+1,c',c/65536),⟨by rw[zlA,a1];rfl,hc',aRJ a3 c,hA,by show 0<=c/65536;omega,by show c/65536<35184372088832;omega,by show m+1<=32;omega,?_⟩,by show(c/65536).toNat<c.toNat;omega,Le.i [(204,(34,0,none))] rfl ?_ rfl ?_ rfl⟩
  .rcases lt_or_ge m 16 with h|h
   .exact Or.inl (by show m+1<=16;omega)
   exact Or.inr (Or.inr (aR2 a3 a4 hc h))
  .exact fc
  exact fc
 obtain rfl:c=0:=by have hc:¬0<c:=hc;omega
 have a4:dv l m=dv d1 i:=by have a4:dv l m+0*65536^m=dv d1 i:=a4;rw[Int.zero_mul,Int.add_zero]at a4;exact a4
 have a1:l.length=m:=a1;have a2:m<=k:=a2;have a3:Dig l:=a3;have a7:m<=32:=a7;have a8:m<=16\/m=i\/115792089237316195423570985008687907853269984665640564039457584007913129639936<=dv d1 i:=a8;refine gB ?_;refine zB.i ?_ ?_<;>intro h16
 .have h16:(m:Int)<=16:=h16
  refine gB ?_
  refine aY.i (σ:=List Int×Nat) (λs=>s.1.length=16/\s.2<=m/\(∀j,j<s.2->s.1.getD j 0=l.getD j 0)/\(∀j,s.2<=j->s.1.getD j 0=0))
   (λs=>([(0,.sl 204 0 0 m k),(2,.ptr 2 0 none),(3,.ptr 3 0 none),(8,.i .i64 s.2)],
    [(1000,.dead),(204,.mem true (k-m) [(m,.ai l)]),(2,.mem true 0 [(16,.ai (replicate 16 0))]),(3,.mem true 0 [(16,.ai s.1)])]))
   (λs=>m-s.2) (replicate 16 0,0) ⟨rfl,zero_le _,λj hj=>absurd hj (not_lt_zero _),λj _=>?_⟩ ?_ ?_
  .show(replicate 16 (0:Int)).getD j 0=0
   rw[getD_eq_getElem?_getD,List.getElem?_replicate];split <;>rfl
  .refine Le.i [] rfl fc rfl fc rfl
  rintro⟨A,q⟩ ⟨b1,b2,b3,b4⟩;have b1:A.length=16:=b1;have b2:q<=m:=b2;have b3:∀j,j<q->A.getD j 0=l.getD j 0:=b3;have b4:∀j,q<=j->A.getD j 0=0:=b4;refine zB.i ?_ ?_<;>intro hc
  .have hc:(q:Int)<m:=hc
   refine gC ?_;refine⟨(A.set q (l.getD q 0),q+1),⟨by rw[length_set];exact b1,by show q+1<=m;omega,λj hj=>?_,λj hj=>?_⟩,by show m-(q+1)<m-q;omega,Le.i [] rfl ?_ rfl ?_ rfl⟩
   .have hj:j<q+1:=hj
    show(A.set q (l.getD q 0)).getD j 0=l.getD j 0;by_cases h:q=j
    .subst h;rw[aE (by omega)]
    rw[aA h];exact b3 j (by omega)
   .have hj:q+1<=j:=hj
    show(A.set q (l.getD q 0)).getD j 0=0;rw[aA (by omega)];exact b4 j (by omega)
   .exact fcn
   exact fcn
  have hq:q=m:=by have hc:¬(q:Int)<m:=hc;omega
  have Ad:Dig A:=by
   intro j;rcases lt_or_ge j q with h|h
   .rw[b3 j h];exact a3 j
   rw[b4 j h];decide
  have Av:dv A 16=dv d1 i:=by
   rw[<-a4,tT (a:=m) (by omega) λj h1 _=>b4 j (by omega)];exact fr λj hj=>b3 j (by omega)
  rw[<-Av]at hm1;clear b2 b3 b4 hc Av a1 a2 a3 a4 a7 a8 hq;refine gB ?_
  refine aY.i (σ:=List Int) (λA=>A.length=16/\Dig A/\dv A 16%57896044618658097711785492504343953926634992332820282019728792003956564819949=dv d n%57896044618658097711785492504343953926634992332820282019728792003956564819949)
   (λA=>([(2,.ptr 2 0 none),(3,.ptr 3 0 none)],
    [(1000,.dead),(2,.mem true 0 [(16,.ai (replicate 16 0))]),(3,.mem true 0 [(16,.ai A)])]))
   (λA=>(dv A 16).toNat) A ⟨b1,Ad,hm1⟩ ?_ ?_
  .refine Le.i [] rfl fc rfl fc rfl
  clear hm1 Ad b1;rintro A ⟨b1,b2,b3⟩;have hL:=ab9 A prime b2 pd b1 hpl;have hM:=aL3 A prime b2 pd b1 hpl;refine aH.i [[],[],[0,1],[0,1,2]] r_4 (by kernel_rfl) ?_;refine gD ?_;refine Call.pure hP rfl fc ?_;rintro _ rfl;refine gD ?_;refine Call.pure hL rfl fc ?_;rintro _ rfl;refine gD ?_;refine zB.i ?_ ?_<;>intro hc
  .have hc:¬dv A 16<dv prime 16:=hc
   obtain⟨m1,m2,m3⟩:=oE b2 pd b1 (by omega);have b0:=(aJ m2 16).1;generalize (sbS A prime 16).1=B at *;refine aH.i [[],[],[0,1],[0,1,2]] r_4 (by kernel_rfl) ?_;refine gD ?_;refine Call.pure hP rfl fc ?_;rintro _ rfl;refine gD ?_;refine Call.pure hM rfl fc ?_;rintro _ rfl;refine gD ?_;refine⟨B,⟨m1,m2,?_⟩,by omega,Le.i [] rfl ?_ rfl ?_ rfl⟩
   .rw[m3,pv,<-b3];exact Int.sub_emod_right _ _
   .exact fc
   exact fc
  have hc:¬¬dv A 16<dv prime 16:=hc;have hv:A=nmF (fz (dv A 16)):=aLI b1 b2 (by omega);have he:fz (dv A 16)=fz (dv d n):=aUH (aJ b2 16).1 h0 b3;rw[he]at hv;rw[<-hv];refine gB ?_;refine Ret.i (.ai A) [(1000,.dead)] [] rfl fc ⟨rfl,rfl⟩ rfl fc rfl fc rfl
 have h16:¬(m:Int)<=16:=h16;refine gB ?_
 refine aY.i (σ:=List Int×Nat) (λs=>s.2<=m/\FoI l s.1 s.2)
  (λs=>([(0,.sl 204 0 0 m k),(2,.ptr 2 0 none),(3,.ptr 3 0 none),(6,.sl 40 0 0 16 16),(7,.i .i64 s.2)],
   [(1000,.dead),(204,.mem true (k-m) [(m,.ai l)]),(2,.mem true 0 [(16,.ai (replicate 16 0))]),(3,.mem true 0 [(16,.ai (replicate 16 0))]),(40,.mem true 0 [(16,.ai s.1)])]))
  (λs=>m-s.2) (replicate 16 0,0) ⟨zero_le _,aX6 l⟩ ?_ ?_
 .refine Le.i [] rfl fc rfl fc rfl
 rintro⟨e,q⟩ ⟨b1,b2⟩;have b1:q<=m:=b1;have b2:FoI l e q:=b2;have el:=b2.len;refine zB.i ?_ ?_<;>intro hc
 .have hc:(q:Int)<m:=hc
  have lq:=a3 q;refine gB ?_;refine zB.i ?_ ?_<;>intro hq
  .have hq:(q:Int)<16:=hq
   have e1:=b2.nn q;have e2:=b2.two q;have b3:=aQ4 b2 a3 (by omega);refine aH.i [[],[],[],[],[2,3],[2,3,4],[],[],[6,7],[6,7,8],[2,3,4,5,6,7,8,9],fe,kX] jO (by kernel_rfl) ?_;refine gC ?_;refine⟨(e.set q (e.getD q 0+l.getD q 0),q+1),⟨by show q+1<=m;omega,b3⟩,by show m-(q+1)<m-q;omega,Le.i [] rfl fcn rfl fcn rfl⟩
  have hq:¬(q:Int)<16:=hq;have e0:((q:Int)-16).toNat=q-16:=by omega
  have e1:=b2.nn (q-16);have e2:=b2.two (q-16);have b3:=aLO b2 a3 (by omega) (by omega);refine aH.i [[],[],[1],[],[],[4],[3,4,5],[3,4,5,6],[],[],[8,9],[8,9,10],[8,9,10,11],[3,4,5,6,7,8,9,10,11,12],oB,nw] na (by kernel_rfl) ?_
  repeat refine sdF ?_
  refine⟨(e.set (q-16) (e.getD (q-16) 0+38*l.getD q 0),q+1),⟨by show q+1<=m;omega,b3⟩,by show m-(q+1)<m-q;omega,Le.i [] rfl fcF rfl fcF rfl⟩
 obtain rfl:q=m:=by have hc:¬(q:Int)<m:=hc;omega
 obtain⟨f1,f2,f3⟩:=aQ5 b2 a3 (by omega);refine gB ?_;refine⟨(e,16,16),⟨el,le_refl _,by show 16<=31;omega,λj=>⟨b2.nn j,by have:=b2.two j;show e.getD j 0<_;omega⟩,f2,by show dv e 16<_;omega,?_⟩,?_,Le.i [(203,(40,0,none))] rfl ?_ rfl ?_ rfl⟩
 .show dv e 16%_=_
  rw[f3,a4,hm1]
 .show(dv e 16).toNat+16<(dv d1 i).toNat+i
  rcases a8 with h|h|h
  .omega
  .omega
  have:=aLN b2 a3 (by omega) (by omega);omega
 .exact fc
 exact fc
open Go Go.Sx Go.Cu
theorem oC:nmF 0=replicate 16 0:=(jQ rfl (Dig.rep 16) (vf 16 16)).symm
theorem aOD {a b d:List Int}:∀{n:Nat},(∀j,j<n->d.getD j 0=a.getD j 0+b.getD j 0)->dv d n=dv a n+dv b n
 |0,_=>rfl
 |n+1,h=>by
  show dv d n+d.getD n 0*65536^n=dv a n+a.getD n 0*65536^n+(dv b n+b.getD n 0*65536^n);rw[aOD λj hj=>h j (by omega),h n (by omega),add_mul];omega
theorem aL7 (n:Nat) (hn:n<35184372088832):Sx.Fn Γ.P 106 [.i .i64 n] [] (λv _=>v= .ai (nmF (fn n))):=by
 have e:dv [(n:Int)] 1=n:=by show(0:Int)+n*1=n;omega
 have hF:=aHL [(n:Int)] 1 1 rfl (by omega) (le_refl _) (λj=>by
  match j with
  |0=>exact⟨by show(0:Int)<=n;omega,by show(n:Int)<_;omega⟩
  |j+1=>exact⟨Int.le_refl _,by show(0:Int)<_;omega⟩) (by rw[e];omega) (by rw[e];omega)
 rw[e,aAF]at hF;have hl:=aC (fn n);generalize nmF (fn n)=R at hF hl;refine aG (Γ:=Γ) (fn:=Tryz.f106) rfl rfl rfl rfl ?_;refine gB ?_;refine Call.i hF [(1000,(4,0,none))] rfl fc rfl fc rfl ?_;rintro _ _ ⟨rfl,rfl⟩;refine gN ?_;refine gB ?_;refine Ret.i (.ai R) [] [] rfl fc rfl rfl fc rfl fc rfl
theorem aUY (x y:F):Sx.Fn Γ.P 110 [.ai (nmF x),.ai (nmF y)] [] (λv _=>v= .ai (nmF (x+y))):=by
 have la:=aC x;have lb:=aC y;have da:=iG x;have db:=iG y;have va:=ip x;have vb:=ip y;have hF:=λ(d:List Int) h1 h2 h3 h4=>aHL d 16 16 h1 (by omega) (le_refl _) h2 h3 h4;have hl:=aC (x+y);generalize nmF x=a at *;generalize nmF y=b at *;have hv:∀d,dv d 16=dv a 16+dv b 16->nmF (fz (dv d 16))=nmF (x+y):=by
  intro d h;rw[h,va,vb];have e:((x.val:Int)+(y.val:Int))=((x.val+y.val:Nat):Int):=by omega
  rw[e,aAF,af,qI,qI]
 generalize nmF (x+y)=R at *;refine aG (Γ:=Γ) (fn:=Tryz.f110) rfl rfl rfl rfl ?_;refine gB ?_
 refine aY.i (σ:=List Int×Nat) (λs=>s.1.length=16/\s.2<=16/\(∀j,j<s.2->s.1.getD j 0=a.getD j 0+b.getD j 0))
  (λs=>([(2,.ptr 2 0 none),(3,.ptr 3 0 none),(4,.ptr 4 0 none),(5,.sl 7 0 0 16 16),(6,.i .i64 s.2)],
   [(2,.mem true 0 [(16,.ai a)]),(3,.mem true 0 [(16,.ai b)]),(4,.mem true 0 [(16,.ai (replicate 16 0))]),(7,.mem true 0 [(16,.ai s.1)])])) (λs=>16-s.2) (replicate 16 0,0) ⟨rfl,zero_le _,λj hj=>absurd hj (not_lt_zero _)⟩ ?_ ?_
 .refine Le.i [] rfl fc rfl fc rfl
 rintro⟨d,i⟩ ⟨h1,h2,h3⟩;have h1:d.length=16:=h1;have h2:i<=16:=h2;have h3:∀j,j<i->d.getD j 0=a.getD j 0+b.getD j 0:=h3;refine zB.i ?_ ?_<;>intro hc
 .have hc:(i:Int)<16:=hc
  have xa:=da i;have xb:=db i;refine aH.i [[],[],[],[2],[2,3],[],[5],[5,6],[2,3,4,5,6,7],r_9,ek] fe (by kernel_rfl) ?_;refine gC ?_;refine⟨(d.set i (a.getD i 0+b.getD i 0),i+1),⟨by rw[length_set];exact h1,by show i+1<=16;omega,λj hj=>?_⟩,by show 16-(i+1)<16-i;omega,Le.i [] rfl ?_ rfl ?_ rfl⟩
  .have hj:j<i+1:=hj
   show(d.set i (a.getD i 0+b.getD i 0)).getD j 0=_;by_cases h:i=j
   .subst h;rw[aE (by omega)]
   rw[aA h];exact h3 j (by omega)
  .exact fcn
  exact fcn
 obtain rfl:i=16:=by have hc:¬(i:Int)<16:=hc;omega
 have e:=aOD h3;have b1:=(aJ da 16).1;have b2:=(aJ da 16).2;have b3:=(aJ db 16).1;have b4:=(aJ db 16).2
 have hG:=hF d h1 (λj=>by
  rcases lt_or_ge j 16 with h|h
  .rw[h3 j h]
   have xa:=da j;have xb:=db j;omega
  rw[cG (by omega)];omega) (by rw[e];omega) (by rw[e];rw[aTC]at b2 b4;omega)
 rw[hv d e]at hG;refine gB ?_;refine Call.i hG [(1000,(7,0,none))] rfl fc rfl fc rfl ?_;rintro _ _ ⟨rfl,rfl⟩;refine gN ?_;refine gB ?_;refine Ret.i (.ai R) [] [] rfl fc rfl rfl fc rfl fc rfl
theorem aLY (x:F) (hx:x≠0):Sx.Fn Γ.P 132 [.ai prD,.ai (nmF x)] [] (λv _=>v= .ai (nmF (0-x))):=by
 have h:=aL3 prD (nmF x) jy (iG x) rfl (aC x);have hv:=aFZ hx;have h1:=x.isLt;have hp:aB=57896044618658097711785492504343953926634992332820282019728792003956564819949:=rfl;obtain⟨m1,m2,m3⟩:=oE jy (iG x) rfl (by rw[xL,ip];omega);have e:(sbS prD (nmF x) 16).1=nmF (0-x):=by
  refine jQ m1 m2 ?_;rw[m3,xL,ip,hv];omega
 rw[e]at h;exact h
theorem aYS (x:F):Sx.Fn Γ.P 112 [.ai (nmF x)] [] (λv _=>v= .ai (nmF (0-x))):=by
 have la:=aC x;have lr:=aC (0-x);have hP:=aL2;refine aG (Γ:=Γ) (fn:=Tryz.f112) rfl rfl rfl rfl ?_;refine gB ?_;refine zB.i ?_ ?_<;>intro h
 .have h:nmF x=replicate 16 0:=h
  have hx:x=0:=pc (by rw[h,oC]);have e:nmF (0-x)=nmF x:=by rw[hx];rfl
  rw[e];generalize nmF x=a at *;refine gB ?_;refine Ret.i (.ai a) [] [] rfl fc rfl rfl fc rfl fc rfl
 have h:¬nmF x=replicate 16 0:=h;have hM:=aLY x (λe=>h (by rw[e,oC]));have hpl:prD.length=16:=rfl;generalize prD=prime at *;generalize nmF (0-x)=R at *;generalize nmF x=a at *;refine aH.i [[],[],[0,1],[0,1,2]] [1,0,2,3] (by kernel_rfl) ?_;refine gD ?_;refine Call.pure hP rfl fc ?_;rintro _ rfl;refine gD ?_;refine Call.pure hM rfl fc ?_;rintro _ rfl;refine gD ?_;refine Ret.i (.ai R) [] [] rfl fc rfl rfl fc rfl fc rfl
theorem aRD (x y:F):Sx.Fn Γ.P 108 [.ai (nmF x),.ai (nmF y)] [] (λv _=>v= .ai (nmF (x-y))):=by
 have la:=aC x;have lb:=aC y;have ln:=aC (0-y);have lr:=aC (x-y);have hN:=aYS y;have hA:=aUY x (0-y);have e:x+(0-y)=x-y:=gr;rw[e]at hA;generalize nmF (x-y)=R at *;generalize nmF (0-y)=N at *;generalize nmF y=b at *;generalize nmF x=a at *;refine aG (Γ:=Γ) (fn:=Tryz.f108) rfl rfl rfl rfl ?_;refine gB ?_;refine aH.i [[],[],[1],[0,1,2],r_4] r_5 (by kernel_rfl) ?_;refine gD ?_;refine Call.pure hN rfl fc ?_;rintro _ rfl;refine gD ?_;refine Call.pure hA rfl fc ?_;rintro _ rfl;refine gD ?_;refine Ret.i (.ai R) [] [] rfl fc rfl rfl fc rfl fc rfl
theorem bM (x y:F):Sx.Fn Γ.P 105 [.ai (nmF x),.ai (nmF y)] [] (λv _=>v= .ai (nmF (x*y))):=by
 have la:=aC x;have lb:=aC y;have da:=iG x;have db:=iG y;have va:=ip x;have vb:=ip y;have hF:=λ(d:List Int) h1 h2 h3 h4=>aHL d 31 31 h1 (by omega) (le_refl _) h2 h3 h4;have hl:=aC (x*y);generalize nmF x=a at *;generalize nmF y=b at *;have hv:∀d,dv d 31=dv a 16*dv b 16->nmF (fz (dv d 31))=nmF (x*y)/\0<=dv d 31/\dv d 31<65536^32:=by
  intro d h;rw[h,va,vb];have e:((x.val:Int)*(y.val:Int))=((x.val*y.val:Nat):Int):=by rw[Int.natCast_mul]
  have hx:=aYY x;have hy:=aYY y;have hb:x.val*y.val<=115792089237316195423570985008687907853269984665640564039457584007913129639935*115792089237316195423570985008687907853269984665640564039457584007913129639935:=Nat.mul_le_mul (by omega) (by omega);refine⟨by rw[e,aAF,lV,qI,qI],by rw[e];omega,?_⟩;rw[e];generalize x.val*y.val=q at *;omega
 generalize nmF (x*y)=R at *;refine aG (Γ:=Γ) (fn:=Tryz.f105) rfl rfl rfl rfl ?_;refine gB ?_
 refine aY.i (σ:=List Int×Nat) (λs=>s.2<=16/\MuI a b s.1 s.2 0)
  (λs=>([(2,.ptr 2 0 none),(3,.ptr 3 0 none),(4,.ptr 4 0 none),(5,.sl 8 0 0 31 31),(6,.i .i64 s.2)],
   [(2,.mem true 0 [(16,.ai a)]),(3,.mem true 0 [(16,.ai b)]),(4,.mem true 0 [(16,.ai (replicate 16 0))]),(8,.mem true 0 [(31,.ai s.1)])])) (λs=>16-s.2) (replicate 31 0,0) ⟨zero_le _,aXS a b⟩ ?_ ?_
 .refine Le.i [] rfl fc rfl fc rfl
 rintro⟨d,i⟩ ⟨h1,h2⟩;have h1:i<=16:=h1;have h2:MuI a b d i 0:=h2;refine zB.i ?_ ?_<;>intro hc
 .have hc:(i:Int)<16:=hc
  refine gB ?_
  refine aY.i (σ:=List Int×Nat) (λs=>s.2<=16/\MuI a b s.1 i s.2)
   (λs=>([(2,.ptr 2 0 none),(3,.ptr 3 0 none),(4,.ptr 4 0 none),(5,.sl 8 0 0 31 31),(6,.i .i64 i),(7,.i .i64 s.2)],
    [(2,.mem true 0 [(16,.ai a)]),(3,.mem true 0 [(16,.ai b)]),(4,.mem true 0 [(16,.ai (replicate 16 0))]),(8,.mem true 0 [(31,.ai s.1)])])) (λs=>16-s.2) (d,0) ⟨zero_le _,h2⟩ ?_ ?_
  .have hll:=h2.len
   refine Le.i [] rfl fc rfl fc rfl
  clear h2;rintro⟨d,k⟩ ⟨h3,h2⟩;have h3:k<=16:=h3;have h2:MuI a b d i k:=h2;have hll:=h2.len;refine zB.i ?_ ?_<;>intro hk
  .have hk:(k:Int)<16:=hk
   have xa:=da i;have xb:=db k;have xp:=aNC xa.1 xa.2 xb.1 xb.2;have xd:=h2.nn (i+k);have xe:=h2.hi (i+k);have e0:((i:Int)+k).toNat=i+k:=by omega
   have hs:=aKX h2 da db (by omega) (by omega);refine aH.i [[],[],[],[1,2],[],[],[],[5,6],[4,5,6,7],[4,5,6,7,8],[],[10],[10,11],[],[13],[13,14],[10,11,12,13,14,15],[4,5,6,7,8,9,10,11,12,13,14,15,16],aBU,uf] aJG (by kernel_rfl) ?_
   repeat refine sdF ?_
   refine⟨(d.set (i+k) (d.getD (i+k) 0+a.getD i 0*b.getD k 0),k+1),⟨by show k+1<=16;omega,hs⟩,by show 16-(k+1)<16-k;omega,Le.i [] rfl fcF rfl fcF rfl⟩
  obtain rfl:k=16:=by have hk:¬(k:Int)<16:=hk;omega
  refine gB ?_;refine⟨(d,i+1),⟨by show i+1<=16;omega,aQE h2⟩,by show 16-(i+1)<16-i;omega,Le.i [] rfl fc rfl fc rfl⟩
 obtain rfl:i=16:=by have hc:¬(i:Int)<16:=hc;omega
 obtain⟨m1,m2⟩:=aQF h2;obtain⟨v1,v2,v3⟩:=hv d m1;have hll:=h2.len;have hG:=hF d hll (λj=>⟨h2.nn j,m2 j⟩) v2 v3;rw[v1]at hG;refine gB ?_;refine Call.i hG [(1000,(8,0,none))] rfl fc rfl fc rfl ?_;rintro _ _ ⟨rfl,rfl⟩;refine gN ?_;refine gB ?_;refine Ret.i (.ai R) [] [] rfl fc rfl rfl fc rfl fc rfl
open Go Go.Sx Go.Cu
theorem aWO {b:List UInt8} {i:Nat}:(((b.getD (2*i) 0).toNat:Int)+256*((b.getD (2*i+1) 0).toNat:Int))=((lv b/65536^i%65536:Nat):Int):=by
 have h0:=uy b (2*i);have h1:=uy b (2*i+1);have e0:(256:Nat)^(2*i)=65536^i:=by rw[pow_mul]
 have e1:(256:Nat)^(2*i+1)=65536^i*256:=by rw[Nat.pow_succ,e0]
 rw[e0]at h0;rw[e1,<-div_div_eq_div_mul]at h1;rw[<-h0,<-h1];generalize lv b/65536^i=w;omega
theorem aTK {d:List Int} {b:List UInt8} (hl:d.length=16) (hb:b.length=32) (h:∀j,j<16->d.getD j 0=((lv b/65536^j%65536:Nat):Int)):
  Dig (d.set 15 (d.getD 15 0%32768))/\fz (dv (d.set 15 (d.getD 15 0%32768)) 16)=ofF b/\0<=dv (d.set 15 (d.getD 15 0%32768)) 16/\dv (d.set 15 (d.getD 15 0%32768)) 16<65536^32:=by
 have hd:Dig d:=by
  intro j;rcases lt_or_ge j 16 with hj|hj
  .rw[h j hj];omega
  rw[cG (by omega)];decide
 have e:d=nmN (lv b):=vZ hl (aR _) λi hi=>by rw[h i hi,pb _ hi]
 have hlt:=aGL b;rw[hb]at hlt;have hlt:lv b<115792089237316195423570985008687907853269984665640564039457584007913129639936:=hlt;have hv:=aFY hlt;rw[<-e]at hv;have x1:=Int.emod_nonneg (d.getD 15 0) (show(32768:Int)≠0 by decide);have x2:=Int.emod_lt_of_pos (d.getD 15 0) (show(0:Int)<32768 by decide);have hd2:Dig (d.set 15 (d.getD 15 0%32768)):=hd.set x1 (by omega);have hs:dv (d.set 15 (d.getD 15 0%32768)) 16=dv d 15+d.getD 15 0%32768*65536^15:=ar (by omega);have ho:dv d 16=dv d 15+d.getD 15 0*65536^15:=rfl;obtain⟨b1,b2⟩:=aJ hd 15;have p15:(65536:Int)^15=1766847064778384329583297500742918515827483896875618958121606201292619776:=by decide
 rw[p15]at hs ho b2;have key:dv (d.set 15 (d.getD 15 0%32768)) 16=((lv b%57896044618658097711785492504343953926634992332820282019728792003956564819968:Nat):Int):=by
  rw[hs];rw[ho]at hv;generalize dv d 15=x at *;generalize d.getD 15 0=y at *;omega
 rw[key];refine⟨hd2,by rw[aAF];rfl,by omega,?_⟩;have:lv b%57896044618658097711785492504343953926634992332820282019728792003956564819968<57896044618658097711785492504343953926634992332820282019728792003956564819968:=Nat.mod_lt _ (by decide);omega
theorem aYW (b:List UInt8) (hb:b.length=32):Sx.Fn Γ.P 102 [.a8 b] [] (λv _=>v= .ai (nmF (ofF b))):=by
 have hF:=λ(d:List Int) h1 h2 h3 h4=>aHL d 16 16 h1 (by omega) (le_refl _) h2 h3 h4;have hl:=aC (ofF b);refine aG (Γ:=Γ) (fn:=Tryz.f102) rfl rfl rfl rfl ?_;refine gB ?_
 refine aY.i (σ:=List Int×Nat) (λs=>s.1.length=16/\s.2<=16/\(∀j,j<s.2->s.1.getD j 0=((lv b/65536^j%65536:Nat):Int)))
  (λs=>([(1,.ptr 1 0 none),(2,.ptr 2 0 none),(3,.sl 5 0 0 16 16),(4,.i .i64 s.2)],
   [(1,.mem true 0 [(32,.a8 b)]),(2,.mem true 0 [(16,.ai (replicate 16 0))]),(5,.mem true 0 [(16,.ai s.1)])])) (λs=>16-s.2) (replicate 16 0,0) ⟨rfl,zero_le _,λj hj=>absurd hj (not_lt_zero _)⟩ ?_ ?_
 .refine Le.i [] rfl fc rfl fc rfl
 rintro⟨d,i⟩ ⟨h1,h2,h3⟩;have h1:d.length=16:=h1;have h2:i<=16:=h2;have h3:∀j,j<i->d.getD j 0=((lv b/65536^j%65536:Nat):Int):=h3;refine zB.i ?_ ?_<;>intro hc
 .have hc:(i:Int)<16:=hc
  have e0:(2*(i:Int)).toNat=2*i:=by omega
  have e1:(2*(i:Int)+1).toNat=2*i+1:=by omega
  have x0:=(b.getD (2*i) 0).toNat_lt;have x1:=(b.getD (2*i+1) 0).toNat_lt;have e2:=aWO (b:=b) (i:=i);refine aH.i [[],[],[],[2],[2,3],[2,3,4],[2,3,4,5],[],[7],[7,8],[7,8,9],[7,8,9,10],[7,8,9,10,11],[7,8,9,10,11,12],[2,3,4,5,6,7,8,9,10,11,12,13],nw,na] wG (by kernel_rfl) ?_
  repeat refine sdI ?_
  refine⟨(d.set i (((b.getD (2*i) 0).toNat:Int)+256*((b.getD (2*i+1) 0).toNat:Int)),i+1),⟨by rw[length_set];exact h1,by show i+1<=16;omega,λj hj=>?_⟩,by show 16-(i+1)<16-i;omega,Le.i [] rfl ?_ rfl ?_ rfl⟩
  .have hj:j<i+1:=hj
   show(d.set i _).getD j 0=_;by_cases h:i=j
   .subst h;rw[aE (by omega),e2]
   rw[aA h];exact h3 j (by omega)
  .exact fcI
  exact fcI
 obtain rfl:i=16:=by have hc:¬(i:Int)<16:=hc;omega
 obtain⟨g1,g2,g3,g4⟩:=aTK h1 hb h3;have x15:0<=d.getD 15 0:=by rw[h3 15 (by omega)];omega
 have hG:=hF (d.set 15 (d.getD 15 0%32768)) (by rw[length_set];exact h1) (λj=>⟨(g1 j).1,by have h:(d.set 15 (d.getD 15 0%32768)).getD j 0<65536:=(g1 j).2;omega⟩) g3 g4;rw[g2]at hG;generalize nmF (ofF b)=R at *;refine gB ?_;refine Call.i hG [(1000,(5,0,none))] rfl fc rfl fc rfl ?_;rintro _ _ ⟨rfl,rfl⟩;refine gN ?_;refine gB ?_;refine Ret.i (.ai R) [] [] rfl fc rfl rfl fc rfl fc rfl
theorem un (n:Nat):ofInt (n:Int)=ofNat n:=by
 unfold ofInt;apply UInt8.toNat_inj.1;rw[toNat_ofNat',toNat_ofNat'];omega
theorem ab5 (v i:Nat):ofInt (((v/65536^i%65536:Nat):Int)%256)=ofNat (v/256^(2*i)):=by
 have e:(((v/65536^i%65536:Nat):Int)%256)=((v/65536^i%65536%256:Nat):Int):=by omega
 rw[e,un,pow_mul];apply UInt8.toNat_inj.1;rw[toNat_ofNat',toNat_ofNat',show(256:Nat)^2=65536 from rfl];omega
theorem ab4 (v i:Nat):ofInt (((v/65536^i%65536:Nat):Int)/256)=ofNat (v/256^(2*i+1)):=by
 have e:(((v/65536^i%65536:Nat):Int)/256)=((v/65536^i%65536/256:Nat):Int):=by omega
 rw[e,un,Nat.pow_succ,pow_mul,<-div_div_eq_div_mul];apply UInt8.toNat_inj.1;rw[toNat_ofNat',toNat_ofNat',show(256:Nat)^2=65536 from rfl];omega
theorem aYV (x:F):Sx.Fn Γ.P 103 [.ai (nmF x)] [] (λv _=>v= .a8 (leB x)):=by
 have la:=aC x;have da:=iG x;have ha:∀i,i<16->(nmF x).getD i 0=((x.val/65536^i%65536:Nat):Int):=λi hi=>pb _ hi;generalize nmF x=a at *;refine aG (Γ:=Γ) (fn:=Tryz.f103) rfl rfl rfl rfl ?_;refine gB ?_
 refine aY.i (σ:=List UInt8×Nat) (λs=>s.1.length=32/\s.2<=16/\(∀j,j<2*s.2->s.1.getD j 0=ofNat (x.val/256^j)))
  (λs=>([(1,.ptr 1 0 none),(2,.ptr 2 0 none),(3,.ptr 3 0 none),(4,.i .i64 s.2)],
   [(1,.mem true 0 [(16,.ai a)]),(2,.mem true 0 [(32,.a8 (replicate 32 0))]),(3,.mem true 0 [(32,.a8 s.1)])])) (λs=>16-s.2) (replicate 32 0,0) ⟨rfl,zero_le _,λj hj=>absurd hj (not_lt_zero _)⟩ ?_ ?_
 .refine Le.i [] rfl fc rfl fc rfl
 rintro⟨d,i⟩ ⟨h1,h2,h3⟩;have h1:d.length=32:=h1;have h2:i<=16:=h2;have h3:∀j,j<2*i->d.getD j 0=ofNat (x.val/256^j):=h3;refine zB.i ?_ ?_<;>intro hc
 .have hc:(i:Int)<16:=hc
  have e0:(2*(i:Int)).toNat=2*i:=by omega
  have e1:(2*(i:Int)+1).toNat=2*i+1:=by omega
  have x0:=da i
  repeat refine sdI ?_
  refine⟨((d.set (2*i) (ofInt (a.getD i 0%256))).set (2*i+1) (ofInt (a.getD i 0/256)),i+1),⟨by rw[length_set,length_set];exact h1,by show i+1<=16;omega,λj hj=>?_⟩,by show 16-(i+1)<16-i;omega,Le.i [] rfl ?_ rfl ?_ rfl⟩
  .have hj:j<2*(i+1):=hj
   show((d.set (2*i) _).set (2*i+1) _).getD j 0=_;by_cases h:2*i+1=j
   .subst h;rw[aE (by rw[length_set];omega),ha i (by omega),ab4]
   rw[aA h];by_cases h:2*i=j
   .subst h;rw[aE (by omega),ha i (by omega),ab5]
   rw[aA h];exact h3 j (by omega)
  .exact fcI
  exact fcI
 obtain rfl:i=16:=by have hc:¬(i:Int)<16:=hc;omega
 have e:d=leB x:=oI h1 (aj x) λj hj=>by rw[h3 j (by omega)];exact(tK 32 _ j hj).symm
 rw[<-e];refine gB ?_;refine Ret.i (.a8 d) [] [] rfl fc rfl rfl fc rfl fc rfl
theorem aUW (e:Nat) (he:e<115792089237316195423570985008687907853269984665640564039457584007913129639936):Sx.Fn Γ.P 135 [.ai (nmN e)] [] (λv _=>v= .ai (nmN (e/2))):=by
 have la:=aR e;have da:=kB e;have hH:=aQ3 he;have hI:=λi hi=>xy la da i hi;have hL:=jW la;generalize nmN e=a at *;refine aG (Γ:=Γ) (fn:=Tryz.f135) rfl rfl rfl rfl ?_;refine gB ?_
 refine aY.i (σ:=Nat) (λi=>i<=16)
  (λi=>([(1,.ptr 1 0 none),(2,.ptr 2 0 none),(3,.i .i64 i)],[(1,.mem true 0 [(16,.ai (hfS a i))]),(2,.mem true 0 [(16,.ai (replicate 16 0))])])) (λi=>16-i) 0 (zero_le _) ?_ ?_
 .have z:hfS a 0=a:=rfl
  refine Le.i [] rfl fc rfl fc rfl
 rintro i hi;have hl:=hL i;have h1:=(hI i hi).1;refine zB.i ?_ ?_<;>intro hc
 .have hc:(i:Int)<16:=hc
  have e0:((i:Int)+1).toNat=i+1:=by omega
  have hx:=h1 i (le_refl _);have hy:=h1 (i+1) (by omega);have x0:=da i;have x1:=da (i+1);rw[<-hx]at x0;rw[<-hy]at x1;have hn:hfS a (i+1)=if i<15 then((hfS a i).set i ((hfS a i).getD i 0/2)).set i (((hfS a i).set i ((hfS a i).getD i 0/2)).getD i 0+(hfS a i).getD (i+1) 0%2*32768)else(hfS a i).set i ((hfS a i).getD i 0/2):=rfl
  clear h1 hx hy;generalize hfS a i=X at *;have y0:(X.set i (X.getD i 0/2)).getD i 0=X.getD i 0/2:=aE (by omega);have y1:(X.set i (X.getD i 0/2)).getD (i+1) 0=X.getD (i+1) 0:=aA (by omega);refine gC ?_;refine zB.i ?_ ?_<;>intro hq
  .have hq:(i:Int)<15:=hq
   rw[if_pos (by omega)]at hn;rw[<-y1]at hn;have y2:0<=(X.set i (X.getD i 0/2)).getD i 0/\(X.set i (X.getD i 0/2)).getD i 0<65536:=by rw[y0];omega
   have y3:0<=(X.set i (X.getD i 0/2)).getD (i+1) 0/\(X.set i (X.getD i 0/2)).getD (i+1) 0<65536:=by rw[y1];omega
   clear y0 y1;refine aH.i [[],[],[1],[1,2],[],[4],[4,5],[4,5,6],[4,5,6,7],[4,5,6,7,8],[1,2,3,4,5,6,7,8,9],fe,kX] jO (by kernel_rfl) ?_
   repeat refine sdF ?_
   refine⟨i+1,by omega,by omega,Le.i [] rfl fcF rfl fcF rfl⟩
  have hq:¬(i:Int)<15:=hq;rw[if_neg (by omega)]at hn;refine gB ?_;refine⟨i+1,by omega,by omega,Le.i [] rfl fcn rfl fcn rfl⟩
 obtain rfl:i=16:=by have hc:¬(i:Int)<16:=hc;omega
 rw[<-hH];generalize hfS a 16=X at *;refine gB ?_;refine Ret.i (.ai X) [] [] rfl fc rfl rfl fc rfl fc rfl
end Go.Proofs.YtaehfiohjkiajaaGreat
