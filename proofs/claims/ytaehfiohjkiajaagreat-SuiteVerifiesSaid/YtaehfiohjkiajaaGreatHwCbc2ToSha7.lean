/- Walks. -/
import Derived.Test.YtaehfiohjkiajaaGreatHwOfToCbc1
import Derived.Test.YtaehfiohjkiajaaGreatHwTabToCu9
set_option linter.unusedSimpArgs false
set_option linter.unusedVariables false
set_option maxHeartbeats 4000000
open UInt32 (ofNat)
open UInt64 (ofInt)
open Nat (zero_le zero_add)
open List (take replicate drop length_set append_assoc)
open Option (getD_some)
set_option maxRecDepth 100000
namespace Go.Proofs.YtaehfiohjkiajaaGreat
open Go Go.Sx
@[irreducible] def yC (key b:List UInt8):List UInt8:=jr tabB (d0 key) b
theorem yB (key:List UInt8) {b:List UInt8} (hb:b.length=16):(yC key b).length=16:=by unfold yC;exact qn hb
theorem aO2 (key b:List UInt8) (hk:key.length=32) (hb:b.length=16):
  Sx.Fn Γ.P 75 [.ptr 1000 0 none,.a8 b] [(1000,cK tabS tabB (d0 key))] (λv M=>v= .a8 (yC key b)/\M=[(1000,cK tabS tabB (d0 key))]):=by
 unfold yC;exact aUS tabS tabB (d0 key) b (dA hk) hb
def fW (b:List UInt8) (i:Nat):List UInt8:=(b.drop (16*i)).take 16
def aFM (out x bg:List UInt8):Nat->List UInt8
 |0=>out
 |j+1=>aFM out x bg j++[x.getD j 0^^^bg.getD j 0]
def unC (key bg b:List UInt8):Nat->List UInt8×List UInt8
 |0=>(bg,[])
 |i+1=>let s:=unC key bg b i
  (fW b i,aFM s.2 (yC key (fW b i)) s.1 16)
def iV (key bg b:List UInt8):List UInt8:=(unC key bg b (b.length/16)).2
def aa (key bg b:List UInt8):Nat:=((iV key bg b).getD (b.length-1) 0).toNat
def bl (key bg b:List UInt8):Option (List UInt8):=
 if b.length=0\/¬b.length%16=0 then none
 else if aa key bg b<1\/16<aa key bg b then none
 else if∀k,k<aa key bg b->((iV key bg b).getD (b.length-aa key bg b+k) 0).toNat=aa key bg b then some ((iV key bg b).take (b.length-aa key bg b))
 else none
theorem j7 (out x bg:List UInt8):∀j,(aFM out x bg j).length=out.length+j
 |0=>rfl
 |j+1=>by simp only[aFM,zlA,j7 out x bg j,List.length_cons,List.length_nil];omega
theorem jD {b:List UInt8} {i:Nat} (h:16*i+16<=b.length):(fW b i).length=16:=by
 simp only[fW,zlT,zlD];omega
theorem wb (key:List UInt8) {bg:List UInt8} (hb:bg.length=16) (b:List UInt8):∀i,16*i<=b.length->(unC key bg b i).1.length=16
 |0,_=>hb
 |i+1,h=>by
  simp only[unC];exact jD (by omega)
theorem ob (key:List UInt8) {bg:List UInt8} (hb:bg.length=16) (b:List UInt8):∀i,(unC key bg b i).2.length=16*i
 |0=>rfl
 |i+1=>by
  have h1:=ob key hb b i;simp only[unC,j7,h1];omega
theorem aVN {b:List UInt8} {i:Nat} (h:16*i+16<=b.length):fW b i=
  take ((none:Option Nat).getD 0) (replicate 16 0)++
   take (min (take ((((16*i:Nat):Int)+16).toNat-((16*i:Nat):Int).toNat) (drop (((16*i:Nat):Int).toNat*1+0) b)).length 16)
    (take ((((16*i:Nat):Int)+16).toNat-((16*i:Nat):Int).toNat) (drop (((16*i:Nat):Int).toNat*1+0) b))++
   drop ((none:Option Nat).getD 0+min (take ((((16*i:Nat):Int)+16).toNat-((16*i:Nat):Int).toNat) (drop (((16*i:Nat):Int).toNat*1+0) b)).length 16) (replicate 16 0):=by
 rw[show(((16*i:Nat):Int)+16).toNat-((16*i:Nat):Int).toNat=16 by omega,show((16*i:Nat):Int).toNat*1+0=16*i by omega];have hl:=jD h;show fW b i=_++take (min (fW b i).length 16) (fW b i)++drop (_+min (fW b i).length 16) _;rw[hl,List.take_of_length_le (l:=fW b i) (by omega)];simp
def aD2 (key bg b:List UInt8) (n:Nat) (v:SV) (M:Mm):Prop:=
 (bl key bg b=none/\v= .tup [.nsl,.ff]/\M=[(1000,.mem false 0 [(n,.a8 b)])])\/
 ∃m s sp,bl key bg b=some s/\s.length=m/\(iV key bg b).take m=s/\m<=n/\(iV key bg b).length=n/\v= .tup [.sl 1001 0 0 m m,.tt]/\M=[(1000,.mem false 0 [(n,.a8 b)]),(1001,.mem true sp [(n,.a8 (iV key bg b))])]
theorem aaF (key bg b:List UInt8) (n:Nat) (hk:key.length=32) (hb:bg.length=16) (hn:b.length=n) (hmax:n<=8192):
  Sx.Fn Γ.P 36 [.a8 key,.a8 bg,.slx 1000 0 0 n] [(1000,.mem false 0 [(n,.a8 b)])] (aD2 key bg b n):=by
 have bad:bl key bg b=none->aD2 key bg b n (.tup [.nsl,.ff]) [(1000,.mem false 0 [(n,.a8 b)])]:=λh=>Or.inl ⟨h,rfl,rfl⟩;refine aG (Γ:=Γ) (fn:=Tryz.f36) rfl rfl rfl rfl ?_;refine gB ?_;refine zB.i ?_ ?_<;>intro h0
 .refine Ret.i (.tup [.nsl,.ff]) [(1000,.mem false 0 [(n,.a8 b)])] [] rfl trivial (bad ?_) rfl fc rfl fc rfl
  unfold bl;rw[if_pos (by omega)]
 refine gB ?_;refine zB.i ?_ ?_<;>intro h1
 .refine Ret.i (.tup [.nsl,.ff]) [(1000,.mem false 0 [(n,.a8 b)])] [] rfl trivial (bad ?_) rfl fc rfl fc rfl
  unfold bl;rw[if_pos (by omega)]
 refine gB ?_;refine Call.i (abE key hk) [(1001,(1001,0,none))] rfl fc rfl trivial rfl ?_;rintro _ _ ⟨rfl,rfl⟩;refine gB ?_;have hkl:=dA hk
 refine aY.i (σ:=Nat×Nat) (λs=>16*s.1<=n/\16*s.1<=s.2)
  (λs=>([(2,.slx 1000 0 0 n),(4,.ptr 4 0 none),(8,.ptr 1001 0 none),(9,.sl 1005 0 0 (16*s.1) s.2),(10,.i .i64 (16*s.1:Nat))],
   [(1000,.mem false 0 [(n,.a8 b)]),(4,.mem true 0 [(16,.a8 (unC key bg b s.1).1)]),(1001,bi tabS tabB (d0 key)),(1005,.mem true (s.2-16*s.1) [(16*s.1,.a8 (unC key bg b s.1).2)])])) (λs=>n-16*s.1) (0,n) ?_ ?_ ?_
 .exact⟨zero_le _,zero_le _⟩
 .exact Le.i [(1005,(31,0,none))] rfl fc rfl fc rfl
 rintro⟨i,c⟩ ⟨hi,hc⟩;simp only at hi hc⊢;have hl1:=wb key hb b i (by omega);have hl2:=ob key hb b i;refine zB.i ?_ ?_<;>intro h
 .refine gB ?_
  refine aH.i [[],[],[],[],[3],[],[5],[1,2,3,4,5,6],r_8] r_9 (by kernel_rfl) ?_;refine gB ?_;have h16:16*i+16<=b.length:=by omega
  have hbk:=jD h16;have hbe:=aVN h16;refine Call.i (aO2 key (fW b i) hk hbk) [(1000,(1001,0,none))] rfl fc rfl fc rfl ?_;rintro _ _ ⟨rfl,rfl⟩;have hdl:=yB key hbk;refine gB ?_
  refine aY.i (σ:=Nat×Nat) (λs=>s.1<=16/\16*i+s.1<=s.2)
   (λs=>([(2,.slx 1000 0 0 n),(4,.ptr 4 0 none),(8,.ptr 1001 0 none),(10,.i .i64 (16*i:Nat)),(11,.ptr 11 0 none),(12,.ptr 12 0 none),(50,.i .i64 s.1),(9,.sl 1006 0 0 (16*i+s.1) s.2)],
    [(1000,.mem false 0 [(n,.a8 b)]),(4,.mem true 0 [(16,.a8 (unC key bg b i).1)]),(11,.mem true 0 [(16,.a8 (fW b i))]),(12,.mem true 0 [(16,.a8 (yC key (fW b i)))]),(1001,bi tabS tabB (d0 key)),
     (1006,.mem true (s.2-(16*i+s.1)) [(16*i+s.1,.a8 (aFM (unC key bg b i).2 (yC key (fW b i)) (unC key bg b i).1 s.1))])])) (λs=>16-s.1) (0,c) ?_ ?_ ?_
  .exact⟨zero_le _,hc⟩
  .have e0:aFM (unC key bg b i).2 (yC key (fW b i)) (unC key bg b i).1 0=(unC key bg b i).2:=rfl
   exact Le.i [(1006,(1005,0,none))] rfl fc rfl fc rfl
  rintro⟨j,c1⟩ ⟨hj,hc1⟩;simp only at hj hc1⊢;have hol:=j7 (unC key bg b i).2 (yC key (fW b i)) (unC key bg b i).1 j;refine zB.i ?_ ?_<;>intro h2
  .refine gB ?_
   refine aH.i [[],[],[1],[1,2],[],[4],[4,5],[1,2,3,4,5,6],[1,2,3,4,5,6,7],r_9,ek] fe (by kernel_rfl) ?_;refine gB ?_;refineλc' hc'=>?_;refine gB ?_;have hc2:16*i+(j+1)<=c':=hc';refine⟨(j+1,c'),⟨by simp only;omega,hc2⟩,by simp only;omega,Le.i [(1006,(62,0,none))] rfl fc rfl ?_ rfl⟩;have e:aFM (unC key bg b i).2 (yC key (fW b i)) (unC key bg b i).1 (j+1)=kR 0 (aFM (unC key bg b i).2 (yC key (fW b i)) (unC key bg b i).1 j)++take 1 (drop 0 (((yC key (fW b i)).getD j 0^^^(unC key bg b i).1.getD j 0)::replicate 0 0)):=rfl;exact fc
  obtain rfl:j=16:=by omega
  refine gB ?_;have hc2:16*(i+1)<=c1:=by omega
  refine⟨(i+1,c1),⟨by simp only;omega,hc2⟩,by simp only;omega,Le.i [(1005,(1006,0,none))] rfl fc rfl ?_ rfl⟩;have e1:(unC key bg b (i+1)).1=fW b i:=rfl;have e2:(unC key bg b (i+1)).2=aFM (unC key bg b i).2 (yC key (fW b i)) (unC key bg b i).1 16:=rfl;exact fc
 have hin:n=16*i:=by omega
 have hout:iV key bg b=(unC key bg b i).2:=by unfold iV;rw[show b.length/16=i by omega]
 have heF:((aa key bg b:Nat):Int)=(((unC key bg b i).2.getD (0+(((16*i:Nat):Int)-1).toNat) 0).toNat:Int):=by
  unfold aa;rw[hout,show b.length-1=0+(((16*i:Nat):Int)-1).toNat by omega]
 have hc0:¬(b.length=0\/¬b.length%16=0):=by omega
 have no2:aa key bg b<1\/16<aa key bg b->bl key bg b=none:=λh=>by
  unfold bl;rw[if_neg hc0,if_pos h]
 refine gB ?_;refine zB.i ?_ ?_<;>intro hf1
 .have hf2:((aa key bg b:Nat):Int)<1:=by rw[heF,zero_add];exact hf1
  refine Ret.i (.tup [.nsl,.ff]) [(1000,.mem false 0 [(n,.a8 b)])] [] rfl trivial (bad (no2 (by omega))) rfl fc rfl fc rfl
 have hf2:¬((aa key bg b:Nat):Int)<1:=by rw[heF,zero_add];exact hf1
 refine zB.i ?_ ?_<;>intro hg1
 .have hg2:16<((aa key bg b:Nat):Int):=by rw[heF,zero_add];exact hg1
  refine Ret.i (.tup [.nsl,.ff]) [(1000,.mem false 0 [(n,.a8 b)])] [] rfl trivial (bad (no2 (by omega))) rfl fc rfl fc rfl
 have hg2:¬16<((aa key bg b:Nat):Int):=by rw[heF,zero_add];exact hg1
 have hc1:¬(aa key bg b<1\/16<aa key bg b):=by omega
 have hi1:1<=i:=by omega
 refine gB ?_
 refine aY.i (σ:=Nat) (λk=>k<=aa key bg b/\∀k',k'<k->((iV key bg b).getD (n-aa key bg b+k') 0).toNat=aa key bg b)
  (λk=>([(9,.sl 1005 0 0 n c),(14,.i .i64 (aa key bg b:Nat)),(83,.sl 1005 0 (n-aa key bg b) (aa key bg b) (c-(n-aa key bg b))),(84,.i .i64 (aa key bg b:Nat)),(85,.i .i64 k)],
   [(1000,.mem false 0 [(n,.a8 b)]),(1005,.mem true (c-n) [(n,.a8 (iV key bg b))])])) (λk=>aa key bg b-k) 0 ?_ ?_ ?_
 .exact⟨zero_le _,λ_ h=>absurd h (Nat.not_lt_zero _)⟩
 .exact Le.i [] rfl fc rfl fc rfl
 rintro k ⟨hk1,hk2⟩;have hol:(iV key bg b).length=n:=by rw[hout,hl2];omega
 refine zB.i ?_ ?_<;>intro h2
 .refine gB ?_
  refine zB.i ?_ ?_<;>intro h3
  .have h3':¬(((iV key bg b).getD (n-aa key bg b+k) 0).toNat:Int)=(aa key bg b:Int):=by
    rw[<-zQ];exact h3
   refine Ret.i (.tup [.nsl,.ff]) [(1000,.mem false 0 [(n,.a8 b)])] [] rfl trivial (bad ?_) rfl fc rfl fc rfl;unfold bl;rw[if_neg hc0,if_neg hc1,if_neg];intro hall;have:=hall k (by omega);rw[hn]at this;exact h3' (by omega)
  have h3':¬¬(((iV key bg b).getD (n-aa key bg b+k) 0).toNat:Int)=(aa key bg b:Int):=by
   rw[<-zQ];exact h3
  refine gB ?_;refine⟨k+1,⟨by omega,λk' hk'=>?_⟩,by omega,Le.i [] rfl fc rfl fc rfl⟩;by_cases he:k'=k
  .subst he;omega
  exact hk2 k' (by omega)
 have hkF:k=aa key bg b:=by omega
 subst hkF;refine gB ?_;refine Ret.i (.tup [.sl 1001 0 0 (n-aa key bg b) (n-aa key bg b),.tt]) [(1000,.mem false 0 [(n,.a8 b)]),(1001,.mem true (c-n) [(n,.a8 (iV key bg b))])] [(1001,(1005,0,none))] rfl trivial (Or.inr ⟨n-aa key bg b,(iV key bg b).take (n-aa key bg b),c-n,?_,by rw[zlT,hol];omega,rfl,by omega,hol,rfl,rfl⟩) rfl fc rfl fc rfl;unfold bl;rw[if_neg hc0,if_neg hc1,if_pos,hn];rw[hn];exact hk2
theorem aIB {key b:List UInt8} (hk:key.length=32) (hb:b.length=16):yC key (aJJ key b)=b:=by
 unfold yC aJJ;exact wZ (dA hk) hb
def fS (text:List UInt8) (m:Nat):List UInt8:=(List.range m).map (qx text)
theorem uk (text:List UInt8) (m:Nat):fS text (m+1)=fS text m++[qx text m]:=by simp[fS,List.range_succ]
theorem pM (text:List UInt8) {m k:Nat} (h:k<m):(fS text m).getD k 0=qx text k:=by
 simp[fS,List.getD_eq_getElem?_getD,List.getElem?_range h]
theorem aDN {last:List UInt8} (hl:last.length=16) (text:List UInt8) (i:Nat):∀(m j:Nat),j<16->m<=16->
  (xKc last text i m).getD j 0=if j<m then last.getD j 0^^^qx text (16*i+j)else last.getD j 0
 |0,j,_,_=>by rw[if_neg (by omega)];rfl
 |m+1,j,hj,hm=>by
  have ih:=aDN hl text i m;have hlen:(xKc last text i m).length=16:=by rw[gL,hl]
  simp only[xKc];rw[List.getD_eq_getElem?_getD,List.getElem?_set];by_cases h:m=j
  .subst h
   rw[if_pos rfl,if_pos (by omega),if_pos (by omega),getD_some,ih m hj (by omega),if_neg (by omega)]
  rw[if_neg h,<-List.getD_eq_getElem?_getD,ih j hj (by omega)];by_cases h2:j<m
  .rw[if_pos h2,if_pos (by omega)]
  rw[if_neg h2,if_neg (by omega)]
theorem aJK (a b:UInt8):a^^^b^^^a=b:=by
 rw[show a^^^b^^^a=b^^^(a^^^a) by ac_rfl,UInt8.xor_self,UInt8.xor_zero]
theorem zS {last:List UInt8} (hl:last.length=16) (text:List UInt8) (i:Nat):∀j,j<=16->aFM (fS text (16*i)) (xKc last text i 16) last j=fS text (16*i+j)
 |0,_=>rfl
 |j+1,h=>by
  simp only[aFM];rw[zS hl text i j (by omega),aDN hl text i 16 j (by omega) (Nat.le_refl _),if_pos (by omega),aJK,<-uk];rfl
theorem sF (key bg text:List UInt8):∀(d k:Nat),∃r,(bK key bg text (k+d)).2=(bK key bg text k).2++r
 |0,k=>⟨[],by simp⟩
 |d+1,k=>by
  obtain⟨r,hr⟩:=sF key bg text d k;refine⟨r++(bK key bg text (k+d+1)).1,?_⟩;have e:(bK key bg text (k+(d+1))).2=(bK key bg text (k+d)).2++(bK key bg text (k+d+1)).1:=rfl;rw[e,hr,append_assoc]
theorem aCR {key bg:List UInt8} (hb:bg.length=16) (text:List UInt8) {i L:Nat} (h:i<L):fW (bK key bg text L).2 i=(bK key bg text (i+1)).1:=by
 obtain⟨r,hr⟩:=sF key bg text (L-(i+1)) (i+1);rw[show i+1+(L-(i+1))=L by omega]at hr;have e:(bK key bg text (i+1)).2=(bK key bg text i).2++(bK key bg text (i+1)).1:=rfl;have h1:=dD key hb text (i+1);have h2:=fC key hb text i;unfold fW;rw[hr,e,append_assoc,<-h2,List.drop_left,<-h1,List.take_left]
theorem yf {key bg:List UInt8} (hk:key.length=32) (hb:bg.length=16) (text:List UInt8) {L:Nat}:∀i,i<=L->
  unC key bg (bK key bg text L).2 i=((bK key bg text i).1,fS text (16*i))
 |0,_=>rfl
 |i+1,h=>by
  have ih:=yf hk hb text (L:=L) i (by omega);have hl:=dD key hb text i;simp only[unC,ih];rw[aCR hb text (by omega)];have e:(bK key bg text (i+1)).1=aJJ key (xKc (bK key bg text i).1 text i 16):=rfl;rw[e,aIB hk (by rw[gL,hl]),zS hl text i 16 (Nat.le_refl _)];rfl
theorem jm (key:List UInt8) {bg:List UInt8} (hb:bg.length=16) (text:List UInt8):(bu key bg text).length=16*(text.length/16+1):=fC key hb text _
theorem aKP (text:List UInt8) {m:Nat} (h:text.length<=m):(fS text m).take text.length=text:=by
 apply List.ext_getElem?;intro k;rw[List.getElem?_take];by_cases hk:k<text.length
 .rw[if_pos hk]
  simp only[fS,List.getElem?_map,List.getElem?_range (show k<m by omega),Option.map_some,qx,if_pos hk,List.getElem?_eq_getElem hk,List.getD_eq_getElem?_getD,getD_some]
 rw[if_neg hk,List.getElem?_eq_none (by omega)]
theorem aMJ {key bg:List UInt8} (hk:key.length=32) (hb:bg.length=16) (text:List UInt8):bl key bg (bu key bg text)=some text:=by
 have hlen:=jm key hb text;have hout:iV key bg (bu key bg text)=fS text (16*(text.length/16+1)):=by
  unfold iV;rw[hlen,show 16*(text.length/16+1)/16=text.length/16+1 by omega];unfold bu;rw[yf hk hb text _ (Nat.le_refl _)]
 have hpad:∀k,text.length<=k->(qx text k).toNat=16-text.length%16:=λk h=>by
  unfold qx qL;rw[if_neg (by omega),UInt8.toNat_ofNat'];omega
 have hfill:aa key bg (bu key bg text)=16-text.length%16:=by
  unfold aa;rw[hout,hlen,pM _ (by omega),hpad _ (by omega)]
 unfold bl;rw[if_neg (by omega),if_neg (by omega),if_pos,hout,hlen,hfill,show 16*(text.length/16+1)-(16-text.length%16)=text.length by omega,aKP _ (by omega)];intro k hk';rw[hfill]at hk'⊢;rw[hout,hlen,pM _ (by omega),hpad _ (by omega)]
abbrev kq0:List UInt32:=[ofNat 1116352408,ofNat 1899447441,ofNat 3049323471,ofNat 3921009573,ofNat 961987163,ofNat 1508970993,ofNat 2453635748,ofNat 2870763221,ofNat 3624381080,ofNat 310598401,ofNat 607225278,ofNat 1426881987,ofNat 1925078388,ofNat 2162078206,ofNat 2614888103,ofNat 3248222580,ofNat 3835390401,ofNat 4022224774,ofNat 264347078,ofNat 604807628,ofNat 770255983,ofNat 1249150122,ofNat 1555081692,ofNat 1996064986,ofNat 2554220882,ofNat 2821834349,ofNat 2952996808,ofNat 3210313671,ofNat 3336571891,ofNat 3584528711,ofNat 113926993,ofNat 338241895,ofNat 666307205,ofNat 773529912,ofNat 1294757372,ofNat 1396182291,ofNat 1695183700,ofNat 1986661051,ofNat 2177026350,ofNat 2456956037,ofNat 2730485921,ofNat 2820302411,ofNat 3259730800,ofNat 3345764771,ofNat 3516065817,ofNat 3600352804,ofNat 4094571909,ofNat 275423344,ofNat 430227734,ofNat 506948616,ofNat 659060556,ofNat 883997877,ofNat 958139571,ofNat 1322822218,ofNat 1537002063,ofNat 1747873779,ofNat 1955562222,ofNat 2024104815,ofNat 2227730452,ofNat 2361852424,ofNat 2428436474,ofNat 2756734187,ofNat 3204031479,ofNat 3329325298]
@[irreducible] def K32:List UInt32:=kq0
theorem aOQ:K32=kq0:=by unfold K32;rfl
theorem aDC:K32.length=64:=by rw[aOQ];rfl
abbrev kq1:List UInt64:=[UInt64.ofNat 4794697086780616226,UInt64.ofNat 8158064640168781261,UInt64.ofNat 13096744586834688815,UInt64.ofNat 16840607885511220156,UInt64.ofNat 4131703408338449720,UInt64.ofNat 6480981068601479193,UInt64.ofNat 10538285296894168987,UInt64.ofNat 12329834152419229976,UInt64.ofNat 15566598209576043074,UInt64.ofNat 1334009975649890238,UInt64.ofNat 2608012711638119052,UInt64.ofNat 6128411473006802146,UInt64.ofNat 8268148722764581231,UInt64.ofNat 9286055187155687089,UInt64.ofNat 11230858885718282805,UInt64.ofNat 13951009754708518548,UInt64.ofNat 16472876342353939154,UInt64.ofNat 17275323862435702243,UInt64.ofNat 1135362057144423861,UInt64.ofNat 2597628984639134821,UInt64.ofNat 3308224258029322869,UInt64.ofNat 5365058923640841347,UInt64.ofNat 6679025012923562964,UInt64.ofNat 8573033837759648693,UInt64.ofNat 10970295158949994411,UInt64.ofNat 12119686244451234320,UInt64.ofNat 12683024718118986047,UInt64.ofNat 13788192230050041572,UInt64.ofNat 14330467153632333762,UInt64.ofNat 15395433587784984357,UInt64.ofNat 489312712824947311,UInt64.ofNat 1452737877330783856,UInt64.ofNat 2861767655752347644,UInt64.ofNat 3322285676063803686,UInt64.ofNat 5560940570517711597,UInt64.ofNat 5996557281743188959,UInt64.ofNat 7280758554555802590,UInt64.ofNat 8532644243296465576,UInt64.ofNat 9350256976987008742,UInt64.ofNat 10552545826968843579,UInt64.ofNat 11727347734174303076,UInt64.ofNat 12113106623233404929,UInt64.ofNat 14000437183269869457,UInt64.ofNat 14369950271660146224,UInt64.ofNat 15101387698204529176,UInt64.ofNat 15463397548674623760,UInt64.ofNat 17586052441742319658,UInt64.ofNat 1182934255886127544,UInt64.ofNat 1847814050463011016,UInt64.ofNat 2177327727835720531,UInt64.ofNat 2830643537854262169,UInt64.ofNat 3796741975233480872,UInt64.ofNat 4115178125766777443,UInt64.ofNat 5681478168544905931,UInt64.ofNat 6601373596472566643,UInt64.ofNat 7507060721942968483,UInt64.ofNat 8399075790359081724,UInt64.ofNat 8693463985226723168,UInt64.ofNat 9568029438360202098,UInt64.ofNat 10144078919501101548,UInt64.ofNat 10430055236837252648,UInt64.ofNat 11840083180663258601,UInt64.ofNat 13761210420658862357,UInt64.ofNat 14299343276471374635,UInt64.ofNat 14566680578165727644,UInt64.ofNat 15097957966210449927,UInt64.ofNat 16922976911328602910,UInt64.ofNat 17689382322260857208,UInt64.ofNat 500013540394364858,UInt64.ofNat 748580250866718886,UInt64.ofNat 1242879168328830382,UInt64.ofNat 1977374033974150939,UInt64.ofNat 2944078676154940804,UInt64.ofNat 3659926193048069267,UInt64.ofNat 4368137639120453308,UInt64.ofNat 4836135668995329356,UInt64.ofNat 5532061633213252278,UInt64.ofNat 6448918945643986474,UInt64.ofNat 6902733635092675308,UInt64.ofNat 7801388544844847127]
@[irreducible] def K64:List UInt64:=kq1
theorem aI7:K64=kq1:=by unfold K64;rfl
theorem aDB:K64.length=80:=by rw[aI7];rfl
def aBO (x:UInt32) (n:Nat):UInt32:=uM x (32-n)|||uL x n
def rT (x:UInt64) (n:Nat):UInt64:=aQ x (64-n)|||aF x n
theorem aZA:∀n:Nat,n<32->0<n->(ofInt (-(n:Int))&&&31).toNat=32-n/\((32:UInt64)-(ofInt (-(n:Int))&&&31)).toNat=n:=by decide
theorem aY9:∀n:Nat,n<64->0<n->(ofInt (-(n:Int))&&&63).toNat=64-n/\((64:UInt64)-(ofInt (-(n:Int))&&&63)).toNat=n:=by decide
theorem aHJ (x:UInt32) (n:Nat) (h:n<32) (h0:0<n):Sx.Fn Γ.P 138 [.u32 x,.i .i64 (-(n:Int))] [] (λv _=>v= .u32 (aBO x n)):=by
 refine aG (Γ:=Γ) (fn:=Tryz.f138) rfl rfl rfl rfl ?_;refine Ret.i (.u32 (aBO x n)) [] [] rfl trivial rfl rfl ?_ rfl trivial rfl;obtain⟨e1,e2⟩:=aZA n h h0;show aBO x n=uM x (ofInt (-(n:Int))&&&31).toNat|||uL x ((32:UInt64)-(ofInt (-(n:Int))&&&31)).toNat
 rw[e1,e2];rfl
theorem aYK (x:UInt64) (n:Nat) (h:n<64) (h0:0<n):Sx.Fn Γ.P 139 [.u64 x,.i .i64 (-(n:Int))] [] (λv _=>v= .u64 (rT x n)):=by
 refine aG (Γ:=Γ) (fn:=Tryz.f139) rfl rfl rfl rfl ?_;refine Ret.i (.u64 (rT x n)) [] [] rfl trivial rfl rfl ?_ rfl trivial rfl;obtain⟨e1,e2⟩:=aY9 n h h0;show rT x n=aQ x (ofInt (-(n:Int))&&&63).toNat|||aF x ((64:UInt64)-(ofInt (-(n:Int))&&&63)).toNat
 rw[e1,e2];rfl
def aOY (b:List UInt8):Nat->List UInt32
 |0=>replicate 64 0
 |i+1=>(aOY b i).set i (uM (b.getD (4*i) 0).toUInt32 24|||uM (b.getD (4*i+1) 0).toUInt32 16|||uM (b.getD (4*i+2) 0).toUInt32 8|||(b.getD (4*i+3) 0).toUInt32)
def aZO (w:List UInt32) (i:Nat):UInt32:=
 w.getD (i-16) 0+w.getD (i-7) 0+(aBO (w.getD (i-15) 0) 7^^^aBO (w.getD (i-15) 0) 18^^^uL (w.getD (i-15) 0) 3)+(aBO (w.getD (i-2) 0) 17^^^aBO (w.getD (i-2) 0) 19^^^uL (w.getD (i-2) 0) 10)
def aA3 (w:List UInt32):Nat->List UInt32
 |0=>w
 |k+1=>(aA3 w k).set (16+k) (aZO (aA3 w k) (16+k))
def aTJ (v:List UInt32) (k w:UInt32):UInt32:=
 v.getD 7 0+(aBO (v.getD 4 0) 6^^^aBO (v.getD 4 0) 11^^^aBO (v.getD 4 0) 25)+(v.getD 4 0&&&v.getD 5 0^^^ ~~~(v.getD 4 0)&&&v.getD 6 0)+k+w
def aWQ (v:List UInt32):UInt32:=
 (aBO (v.getD 0 0) 2^^^aBO (v.getD 0 0) 13^^^aBO (v.getD 0 0) 22)+(v.getD 0 0&&&v.getD 1 0^^^v.getD 0 0&&&v.getD 2 0^^^v.getD 1 0&&&v.getD 2 0)
def aZQ (v:List UInt32) (k w:UInt32):List UInt32:=
 [aTJ v k w+aWQ v,v.getD 0 0,v.getD 1 0,v.getD 2 0,v.getD 3 0+aTJ v k w,v.getD 4 0,v.getD 5 0,v.getD 6 0]
def mV (w v:List UInt32):Nat->List UInt32
 |0=>v
 |i+1=>aZQ (mV w v i) (K32.getD i 0) (w.getD i 0)
def aLG (h v:List UInt32):Nat->List UInt32
 |0=>h
 |i+1=>(aLG h v i).set i ((aLG h v i).getD i 0+v.getD i 0)
def aDU (b:List UInt8):List UInt32:=aA3 (aOY b 16) 48
def yL (h:List UInt32) (b:List UInt8):List UInt32:=aLG h (mV (aDU b) h 64) 8
theorem oV (b:List UInt8):∀i,(aOY b i).length=64
 |0=>List.length_replicate
 |i+1=>by simp only[aOY,length_set,oV b i]
theorem oY {w:List UInt32} (h:w.length=64):∀i,(aA3 w i).length=64
 |0=>h
 |i+1=>by simp only[aA3,length_set,oY h i]
theorem uc {w v:List UInt32} (h:v.length=8):∀i,(mV w v i).length=8
 |0=>h
 |i+1=>rfl
theorem kO {h v:List UInt32} (hh:h.length=8):∀i,(aLG h v i).length=8
 |0=>hh
 |i+1=>by simp only[aLG,length_set,kO hh i]
theorem vn {h:List UInt32} (hh:h.length=8) (b:List UInt8):(yL h b).length=8:=kO hh 8
theorem rC (h:List UInt32) (b:List UInt8) (hh:h.length=8) (hb:b.length=64):Sx.Fn Γ.P 119 [.ptr 1000 0 none,.slx 1001 0 0 64] [(1000,.mem true 0 [(8,.a32 h)]),(1001,.mem false 0 [(64,.a8 b)])]
  (λv M=>v= .tup []/\M=[(1000,.mem true 0 [(8,.a32 (yL h b))]),(1001,.mem false 0 [(64,.a8 b)])]):=by
 have hK:=aOQ;have hKl:=aDC;refine aG (Γ:=Γ) (fn:=Tryz.f119) rfl rfl rfl rfl ?_;refine gB ?_
 refine aY.i (σ:=Nat) (λi=>i<=16)
  (λi=>([(0,.ptr 1000 0 none),(1,.slx 1001 0 0 64),(4,.ptr 4 0 none),(5,.ptr 5 0 none),(18,.i .i64 i)],
   [(1000,.mem true 0 [(8,.a32 h)]),(1001,.mem false 0 [(64,.a8 b)]),(4,.mem true 0 [(64,.a32 K32)]),(5,.mem true 0 [(64,.a32 (aOY b i))])])) (λi=>16-i) 0 (zero_le _) ?_ ?_
 .refine Le.i [] rfl fc rfl ?_ rfl
  exact fc
 rintro i hi;have hl:=oV b i;refine zB.i ?_ ?_<;>intro hc
 .have hc:(i:Int)<16:=hc
  have e0:(4*(i:Int)).toNat=4*i:=by omega
  have e1:(4*(i:Int)+1).toNat=4*i+1:=by omega
  have e2:(4*(i:Int)+2).toNat=4*i+2:=by omega
  have e3:(4*(i:Int)+3).toNat=4*i+3:=by omega
  refine aH.i [[],[],[],[2],[1,2,3],[1,2,3,4],[1,2,3,4,5],[1,2,3,4,5,6],[],[],[9],[9,10],[8,9,10,11],[8,9,10,11,12],[8,9,10,11,12,13],[8,9,10,11,12,13,14],[1,2,3,4,5,6,7,8,9,10,11,12,13,14,15],[],[],[18],[18,19],[17,18,19,20],[17,18,19,20,21],[17,18,19,20,21,22],[17,18,19,20,21,22,23],[1,2,3,4,5,6,7,8,9,10,11,12,13,14,15,16,17,18,19,20,21,22,23,24],[],[],[27],[27,28],[26,27,28,29],[26,27,28,29,30],[26,27,28,29,30,31],[1,2,3,4,5,6,7,8,9,10,11,12,13,14,15,16,17,18,19,20,21,22,23,24,25,26,27,28,29,30,31,32],aaY,[0,1,2,3,4,5,6,7,8,9,10,11,12,13,14,15,16,17,18,19,20,21,22,23,24,25,26,27,28,29,30,31,32,33,34]] [0,1,2,3,4,5,6,7,8,9,10,11,12,13,14,15,16,17,18,19,20,21,22,23,24,25,26,27,28,29,30,31,32,33,34,35] (by kernel_rfl) ?_
  repeat(refine fg.i (by repeat' (first|(show zA _;first|exact trivial|refine zA.app ?_ ?_|refine zA.zd ?_ ?_|refine zA.cons ?_ ?_)|with_reducible rfl|with_reducible assumption|omega |(simp only[zero_add,e0,e1,e2,e3,rng,Ix.val,zQ,addI,szs]<;>omega)|(simp only[zero_add,e0,e1,e2,e3,rng,Ix.val,zIn,zme,zQ,addI,Option.getD_none,getD_some,zlT,zlD,zlA,length_set,List.length_replicate,szs, *]<;>omega)|(simp only[Ix.val];with_reducible assumption)|exact UInt8.toNat_lt _|(apply Eq.trans;(with_reducible assumption);exact rfl)|exact rfl|exactλ_ _=>rfl)) ?_)
  refine⟨i+1,by omega,by omega,Le.i [] rfl fc rfl ?_ rfl⟩;exact fc
 obtain rfl:i=16:=by have hc:¬(i:Int)<16:=hc;omega
 obtain⟨W0,hW0⟩:∃x,aOY b 16=x:=⟨_,rfl⟩;rw[hW0]at hl
 refine aY.i (σ:=Nat) (λk=>k<=48)
  (λk=>([(0,.ptr 1000 0 none),(4,.ptr 4 0 none),(5,.ptr 5 0 none),(7,.i .i64 ((k:Int)+16))],
   [(1000,.mem true 0 [(8,.a32 h)]),(1001,.mem false 0 [(64,.a8 b)]),(4,.mem true 0 [(64,.a32 K32)]),(5,.mem true 0 [(64,.a32 (aA3 W0 k))])])) (λk=>48-k) 0 (zero_le _) ?_ ?_
 .refine Le.i [] rfl fc rfl ?_ rfl
  have e0:aA3 W0 0=aOY b 16:=hW0.symm;exact fc
 rintro k hk;have hl:=oY hl k;refine zB.i ?_ ?_<;>intro hc
 .have hc:(k:Int)+16<64:=hc
  have e0:((k:Int)+16).toNat=16+k:=by omega
  have e1:((k:Int)+16-16).toNat=16+k-16:=by omega
  have e2:((k:Int)+16-7).toNat=16+k-7:=by omega
  have e3:((k:Int)+16-15).toNat=16+k-15:=by omega
  have e4:((k:Int)+16-2).toNat=16+k-2:=by omega
  refine aH.i [[],[0],[0,1],[0,1,2],[],[4],[4,5],[4,5,6],r_4,r_9] ek (by kernel_rfl) ?_
  repeat refine sdE ?_
  refine aH.i [[],[],[1],[1,2],[1,2,3],[],[5],[5,6],[5,6,7],[1,2,3,4,5,6,7,8],[],[10],[],[10,11,12],[10,11,12,13],[],[15],[10,11,12,13,14,15,16],[1,2,3,4,5,6,7,8,9,10,11,12,13,14,15,16,17],[],[10,11,12,13,19],[],[10,11,12,13,19,20,21],[10,11,12,13,19,20,21,22],[],[24],[10,11,12,13,19,20,21,22,23,24,25],[1,2,3,4,5,6,7,8,9,10,11,12,13,14,15,16,17,18,19,20,21,22,23,24,25,26],aW3,aS3] [0,1,2,3,4,5,6,7,8,9,10,12,15,16,19,21,24,25,11,13,14,17,18,20,22,23,26,27,28,29] (by kernel_rfl) ?_
  repeat refine sdE ?_
  refine Call.pure (aHJ ((aA3 W0 k).getD (16+k-15) 0) 7 (by decide) (by decide)) rfl fcG ?_;rintro _ rfl;refine cL.i [] rfl rfl ?_;refine Call.pure (aHJ ((aA3 W0 k).getD (16+k-15) 0) 18 (by decide) (by decide)) rfl fcG ?_;rintro _ rfl;refine cL.i [] rfl rfl ?_;refine Call.pure (aHJ ((aA3 W0 k).getD (16+k-2) 0) 17 (by decide) (by decide)) rfl fcH ?_;rintro _ rfl;refine cL.i [] rfl rfl ?_;refine Call.pure (aHJ ((aA3 W0 k).getD (16+k-2) 0) 19 (by decide) (by decide)) rfl fcH ?_;rintro _ rfl;refine cL.i [] rfl rfl ?_
  repeat refine sdE ?_
  refine⟨k+1,by omega,by omega,Le.i [] rfl fc rfl ?_ rfl⟩
  repeat' first|exact trivial|refine zA.app ?_ ?_|refine zA.zd ?_ ?_|refine zA.cons ?_ ?_|exact fc|fail
  simp only[zero_add,e0,e1,e2,e3,e4,zQ,Ix.val,zIn,aA3,aZO]
 obtain rfl:k=48:=by have hc:¬(k:Int)+16<64:=hc;omega
 obtain⟨W,hW⟩:∃x,aA3 W0 48=x:=⟨_,rfl⟩;rw[hW]at hl;have hWa:aDU b=W:=by unfold aDU;rw[hW0,hW]
 refine gB ?_
 refine aY.i (σ:=Nat) (λi=>i<=64)
  (λi=>([(0,.ptr 1000 0 none),(4,.ptr 4 0 none),(5,.ptr 5 0 none),(10,.ptr 10 0 none),(101,.i .i64 i)],
   [(1000,.mem true 0 [(8,.a32 h)]),(1001,.mem false 0 [(64,.a8 b)]),(4,.mem true 0 [(64,.a32 K32)]),(5,.mem true 0 [(64,.a32 W)]),(10,.mem true 0 [(8,.a32 (mV W h i))])])) (λi=>64-i) 0 (zero_le _) ?_ ?_
 .refine Le.i [] rfl fc rfl ?_ rfl
  have e0:mV W h 0=h:=rfl;have hW':=hW.symm;exact fc
 rintro i hi;have hvl:=uc (w:=W) hh i;obtain⟨V,hV⟩:∃x,mV W h i=x:=⟨_,rfl⟩;rw[hV]at hvl;have hnext:mV W h (i+1)=aZQ V (K32.getD i 0) (W.getD i 0):=by rw[<-hV];rfl
 refine zB.i ?_ ?_<;>intro hc
 .have hc:(i:Int)<64:=hc
  refine aH.i [[],[0],[],[2],[0,1],r_5] r_6 (by kernel_rfl) ?_;refine gB ?_;refine aH.i [[],[0],[],[2],[],[2,3,4],[2,3,4,5],[],[2,3,4,5,7],[2,3,4,5,6,7,8],ek,[],[],[12],[11,12,13],[],[15],[],[17],[15,16,17,18],[11,12,13,14,15,16,17,18,19],aJF,[],[22],[22,23],aW4,[],[26],[26,27],aS3,aS2] [0,1,2,4,7,11,12,13,14,15,16,17,18,19,20,22,23,24,26,27,28,3,5,6,8,9,10,21,25,29,30] (by kernel_rfl) ?_;refine gB ?_;refine Call.pure (aHJ ((mV W h i).getD 4 0) 6 (by decide) (by decide)) rfl fc ?_;rintro _ rfl;refine cL.i [] rfl rfl ?_;refine Call.pure (aHJ ((mV W h i).getD 4 0) 11 (by decide) (by decide)) rfl fc ?_;rintro _ rfl;refine cL.i [] rfl rfl ?_;refine Call.pure (aHJ ((mV W h i).getD 4 0) 25 (by decide) (by decide)) rfl fc ?_;rintro _ rfl;refine cL.i [] rfl rfl ?_;refine gB ?_;refine aH.i [[],[0],[],[0,1,2],r_4,[],[0,1,2,3,5],r_7,[],[],[9],[8,9,10],[],[],[13],[12,13,14],[8,9,10,11,12,13,14,15],[],[17],[],[19],[17,18,19,20],[8,9,10,11,12,13,14,15,16,17,18,19,20,21],aZT,aW5] [0,2,5,8,9,10,11,12,13,14,15,16,17,18,19,20,21,22,1,3,4,6,7,23,24] (by kernel_rfl) ?_;refine gB ?_;refine Call.pure (aHJ ((mV W h i).getD 0 0) 2 (by decide) (by decide)) rfl fc ?_;rintro _ rfl;refine cL.i [] rfl rfl ?_;refine Call.pure (aHJ ((mV W h i).getD 0 0) 13 (by decide) (by decide)) rfl fc ?_;rintro _ rfl;refine cL.i [] rfl rfl ?_;refine Call.pure (aHJ ((mV W h i).getD 0 0) 22 (by decide) (by decide)) rfl fc ?_;rintro _ rfl;refine cL.i [] rfl rfl ?_;refine gB ?_;refine⟨i+1,by omega,by omega,Le.i [] rfl fc rfl ?_ rfl⟩;exact fc
 obtain rfl:i=64:=by have hc:¬(i:Int)<64:=hc;omega
 have hV':=hV.symm;have hblk:yL h b=aLG h V 8:=by unfold yL;rw[hWa,hV]
 clear hV
 refine aY.i (σ:=Nat) (λj=>j<=8)
  (λj=>([(0,.ptr 1000 0 none),(10,.ptr 10 0 none),(181,.i .i64 j)],
   [(1000,.mem true 0 [(8,.a32 (aLG h V j))]),(1001,.mem false 0 [(64,.a8 b)]),(10,.mem true 0 [(8,.a32 V)])])) (λj=>8-j) 0 (zero_le _) ?_ ?_
 .refine Le.i [] rfl fc rfl ?_ rfl
  have e0:aLG h V 0=h:=rfl;exact fc
 rintro j hj;have hAl:=kO (v:=V) hh j;refine zB.i ?_ ?_<;>intro hc
 .have hc:(j:Int)<8:=hc
  refine aH.i [[],[],[0],[0,1,2],r_4,[],[5],[5,6],r_8,[0],ek,fe] kX (by kernel_rfl) ?_;refine gB ?_;refine⟨j+1,by omega,by omega,Le.i [] rfl fc rfl ?_ rfl⟩;exact fc
 obtain rfl:j=8:=by have hc:¬(j:Int)<8:=hc;omega
 refine gB ?_;rw[hblk];refine Ret.i (.tup []) [(1000,.mem true 0 [(8,.a32 (aLG h V 8))]),(1001,.mem false 0 [(64,.a8 b)])] [] rfl trivial ⟨rfl,rfl⟩ rfl trivial rfl ?_ rfl;exact fc
def wC (b:List UInt8):Nat->List UInt64
 |0=>replicate 80 0
 |i+1=>(wC b i).set (i/8) (aQ ((wC b i).getD (i/8) 0) 8|||(b.getD i 0).toUInt64)
def aSR (w:List UInt64) (i:Nat):UInt64:=
 w.getD (i-16) 0+w.getD (i-7) 0+(rT (w.getD (i-15) 0) 1^^^rT (w.getD (i-15) 0) 8^^^aF (w.getD (i-15) 0) 7)+(rT (w.getD (i-2) 0) 19^^^rT (w.getD (i-2) 0) 61^^^aF (w.getD (i-2) 0) 6)
def wD (w:List UInt64):Nat->List UInt64
 |0=>w
 |k+1=>(wD w k).set (16+k) (aSR (wD w k) (16+k))
def aPZ (v:List UInt64) (k w:UInt64):UInt64:=
 v.getD 7 0+(rT (v.getD 4 0) 14^^^rT (v.getD 4 0) 18^^^rT (v.getD 4 0) 41)+(v.getD 4 0&&&v.getD 5 0^^^ ~~~(v.getD 4 0)&&&v.getD 6 0)+k+w
def aSS (v:List UInt64):UInt64:=
 (rT (v.getD 0 0) 28^^^rT (v.getD 0 0) 34^^^rT (v.getD 0 0) 39)+(v.getD 0 0&&&v.getD 1 0^^^v.getD 0 0&&&v.getD 2 0^^^v.getD 1 0&&&v.getD 2 0)
def aV2 (v:List UInt64) (k w:UInt64):List UInt64:=
 [aPZ v k w+aSS v,v.getD 0 0,v.getD 1 0,v.getD 2 0,v.getD 3 0+aPZ v k w,v.getD 4 0,v.getD 5 0,v.getD 6 0]
def jw (w v:List UInt64):Nat->List UInt64
 |0=>v
 |i+1=>aV2 (jw w v i) (K64.getD i 0) (w.getD i 0)
def aHA (h v:List UInt64):Nat->List UInt64
 |0=>h
 |i+1=>(aHA h v i).set i ((aHA h v i).getD i 0+v.getD i 0)
def yc (b:List UInt8):List UInt64:=wD (wC b 128) 64
def tc (h:List UInt64) (b:List UInt8):List UInt64:=aHA h (jw (yc b) h 80) 8
theorem oU (b:List UInt8):∀i,(wC b i).length=80
 |0=>List.length_replicate
 |i+1=>by simp only[wC,length_set,oU b i]
theorem oX {w:List UInt64} (h:w.length=80):∀i,(wD w i).length=80
 |0=>h
 |i+1=>by simp only[wD,length_set,oX h i]
theorem ub {w v:List UInt64} (h:v.length=8):∀i,(jw w v i).length=8
 |0=>h
 |i+1=>rfl
theorem kN {h v:List UInt64} (hh:h.length=8):∀i,(aHA h v i).length=8
 |0=>hh
 |i+1=>by simp only[aHA,length_set,kN hh i]
theorem vm {h:List UInt64} (hh:h.length=8) (b:List UInt8):(tc h b).length=8:=kN hh 8
theorem rB (h:List UInt64) (b:List UInt8) (hh:h.length=8) (hb:b.length=128):Sx.Fn Γ.P 120 [.ptr 1000 0 none,.slx 1001 0 0 128] [(1000,.mem true 0 [(8,.a64 h)]),(1001,.mem false 0 [(128,.a8 b)])]
  (λv M=>v= .tup []/\M=[(1000,.mem true 0 [(8,.a64 (tc h b))]),(1001,.mem false 0 [(128,.a8 b)])]):=by
 have hK:=aI7;have hKl:=aDB;refine aG (Γ:=Γ) (fn:=Tryz.f120) rfl rfl rfl rfl ?_;refine gB ?_
 refine aY.i (σ:=Nat) (λi=>i<=128)
  (λi=>([(0,.ptr 1000 0 none),(1,.slx 1001 0 0 128),(4,.ptr 4 0 none),(5,.ptr 5 0 none),(18,.i .i64 i)],
   [(1000,.mem true 0 [(8,.a64 h)]),(1001,.mem false 0 [(128,.a8 b)]),(4,.mem true 0 [(80,.a64 K64)]),(5,.mem true 0 [(80,.a64 (wC b i))])])) (λi=>128-i) 0 (zero_le _) ?_ ?_
 .refine Le.i [] rfl fc rfl ?_ rfl
  exact fc
 rintro i hi;have hl:=oU b i;refine zB.i ?_ ?_<;>intro hc
 .have hc:(i:Int)<128:=hc
  have e0:((i:Int)/8).toNat=i/8:=by omega
  refine aH.i [[],[0],[],[2],[2,3],[2,3,4],[2,3,4,5],[],[],[7,8],[7,8,9],[7,8,9,10],[2,3,4,5,6,7,8,9,10,11],jO,oB] nw (by kernel_rfl) ?_
  repeat refine sdF ?_
  refine⟨i+1,by omega,by omega,Le.i [] rfl fc rfl ?_ rfl⟩
  repeat' first|exact trivial|refine zA.app ?_ ?_|refine zA.zd ?_ ?_|refine zA.cons ?_ ?_|exact fc|fail
  all_goals simp only[zero_add,e0,zQ,Ix.val,zIn,wC]
 obtain rfl:i=128:=by have hc:¬(i:Int)<128:=hc;omega
 obtain⟨W0,hW0⟩:∃x,wC b 128=x:=⟨_,rfl⟩;rw[hW0]at hl
 refine aY.i (σ:=Nat) (λk=>k<=64)
  (λk=>([(0,.ptr 1000 0 none),(4,.ptr 4 0 none),(5,.ptr 5 0 none),(7,.i .i64 ((k:Int)+16))],
   [(1000,.mem true 0 [(8,.a64 h)]),(1001,.mem false 0 [(128,.a8 b)]),(4,.mem true 0 [(80,.a64 K64)]),(5,.mem true 0 [(80,.a64 (wD W0 k))])])) (λk=>64-k) 0 (zero_le _) ?_ ?_
 .refine Le.i [] rfl fc rfl ?_ rfl
  have e0:wD W0 0=wC b 128:=hW0.symm;exact fc
 rintro k hk;have hl:=oX hl k;refine zB.i ?_ ?_<;>intro hc
 .have hc:(k:Int)+16<80:=hc
  have e0:((k:Int)+16).toNat=16+k:=by omega
  have e1:((k:Int)+16-16).toNat=16+k-16:=by omega
  have e2:((k:Int)+16-7).toNat=16+k-7:=by omega
  have e3:((k:Int)+16-15).toNat=16+k-15:=by omega
  have e4:((k:Int)+16-2).toNat=16+k-2:=by omega
  refine aH.i [[],[0],[0,1],[0,1,2],[],[4],[4,5],[4,5,6],r_4,r_9] ek (by kernel_rfl) ?_
  repeat refine sdE ?_
  refine aH.i [[],[],[1],[1,2],[1,2,3],[],[5],[5,6],[5,6,7],[1,2,3,4,5,6,7,8],[],[10],[],[10,11,12],[10,11,12,13],[],[15],[10,11,12,13,14,15,16],[1,2,3,4,5,6,7,8,9,10,11,12,13,14,15,16,17],[],[10,11,12,13,19],[],[10,11,12,13,19,20,21],[10,11,12,13,19,20,21,22],[],[24],[10,11,12,13,19,20,21,22,23,24,25],[1,2,3,4,5,6,7,8,9,10,11,12,13,14,15,16,17,18,19,20,21,22,23,24,25,26],aW3,aS3] [0,1,2,3,4,5,6,7,8,9,10,12,15,16,19,21,24,25,11,13,14,17,18,20,22,23,26,27,28,29] (by kernel_rfl) ?_
  repeat refine sdE ?_
  refine Call.pure (aYK ((wD W0 k).getD (16+k-15) 0) 1 (by decide) (by decide)) rfl fcG ?_;rintro _ rfl;refine cL.i [] rfl rfl ?_;refine Call.pure (aYK ((wD W0 k).getD (16+k-15) 0) 8 (by decide) (by decide)) rfl fcG ?_;rintro _ rfl;refine cL.i [] rfl rfl ?_;refine Call.pure (aYK ((wD W0 k).getD (16+k-2) 0) 19 (by decide) (by decide)) rfl fcH ?_;rintro _ rfl;refine cL.i [] rfl rfl ?_;refine Call.pure (aYK ((wD W0 k).getD (16+k-2) 0) 61 (by decide) (by decide)) rfl fcH ?_;rintro _ rfl;refine cL.i [] rfl rfl ?_
  repeat refine sdE ?_
  refine⟨k+1,by omega,by omega,Le.i [] rfl fc rfl ?_ rfl⟩
  repeat' first|exact trivial|refine zA.app ?_ ?_|refine zA.zd ?_ ?_|refine zA.cons ?_ ?_|exact fc|fail
  simp only[zero_add,e0,e1,e2,e3,e4,zQ,Ix.val,zIn,wD,aSR]
 obtain rfl:k=64:=by have hc:¬(k:Int)+16<80:=hc;omega
 obtain⟨W,hW⟩:∃x,wD W0 64=x:=⟨_,rfl⟩;rw[hW]at hl;have hWa:yc b=W:=by unfold yc;rw[hW0,hW]
 refine gB ?_
 refine aY.i (σ:=Nat) (λi=>i<=80)
  (λi=>([(0,.ptr 1000 0 none),(4,.ptr 4 0 none),(5,.ptr 5 0 none),(10,.ptr 10 0 none),(80,.i .i64 i)],
   [(1000,.mem true 0 [(8,.a64 h)]),(1001,.mem false 0 [(128,.a8 b)]),(4,.mem true 0 [(80,.a64 K64)]),(5,.mem true 0 [(80,.a64 W)]),(10,.mem true 0 [(8,.a64 (jw W h i))])])) (λi=>80-i) 0 (zero_le _) ?_ ?_
 .refine Le.i [] rfl fc rfl ?_ rfl
  have e0:jw W h 0=h:=rfl;have hW':=hW.symm;exact fc
 rintro i hi;have hvl:=ub (w:=W) hh i;obtain⟨V,hV⟩:∃x,jw W h i=x:=⟨_,rfl⟩;rw[hV]at hvl;have hnext:jw W h (i+1)=aV2 V (K64.getD i 0) (W.getD i 0):=by rw[<-hV];rfl
 refine zB.i ?_ ?_<;>intro hc
 .have hc:(i:Int)<80:=hc
  refine aH.i [[],[0],[],[2],[0,1],r_5] r_6 (by kernel_rfl) ?_;refine gB ?_;refine aH.i [[],[0],[],[2],[],[2,3,4],[2,3,4,5],[],[2,3,4,5,7],[2,3,4,5,6,7,8],ek,[],[],[12],[11,12,13],[],[15],[],[17],[15,16,17,18],[11,12,13,14,15,16,17,18,19],aJF,[],[22],[22,23],aW4,[],[26],[26,27],aS3,aS2] [0,1,2,4,7,11,12,13,14,15,16,17,18,19,20,22,23,24,26,27,28,3,5,6,8,9,10,21,25,29,30] (by kernel_rfl) ?_;refine gB ?_;refine Call.pure (aYK ((jw W h i).getD 4 0) 14 (by decide) (by decide)) rfl fc ?_;rintro _ rfl;refine cL.i [] rfl rfl ?_;refine Call.pure (aYK ((jw W h i).getD 4 0) 18 (by decide) (by decide)) rfl fc ?_;rintro _ rfl;refine cL.i [] rfl rfl ?_;refine Call.pure (aYK ((jw W h i).getD 4 0) 41 (by decide) (by decide)) rfl fc ?_;rintro _ rfl;refine cL.i [] rfl rfl ?_;refine gB ?_;refine aH.i [[],[0],[],[0,1,2],r_4,[],[0,1,2,3,5],r_7,[],[],[9],[8,9,10],[],[],[13],[12,13,14],[8,9,10,11,12,13,14,15],[],[17],[],[19],[17,18,19,20],[8,9,10,11,12,13,14,15,16,17,18,19,20,21],aZT,aW5] [0,2,5,8,9,10,11,12,13,14,15,16,17,18,19,20,21,22,1,3,4,6,7,23,24] (by kernel_rfl) ?_;refine gB ?_;refine Call.pure (aYK ((jw W h i).getD 0 0) 28 (by decide) (by decide)) rfl fc ?_;rintro _ rfl;refine cL.i [] rfl rfl ?_;refine Call.pure (aYK ((jw W h i).getD 0 0) 34 (by decide) (by decide)) rfl fc ?_;rintro _ rfl;refine cL.i [] rfl rfl ?_;refine Call.pure (aYK ((jw W h i).getD 0 0) 39 (by decide) (by decide)) rfl fc ?_;rintro _ rfl;refine cL.i [] rfl rfl ?_;refine gB ?_;refine⟨i+1,by omega,by omega,Le.i [] rfl fc rfl ?_ rfl⟩;exact fc
 obtain rfl:i=80:=by have hc:¬(i:Int)<80:=hc;omega
 have hV':=hV.symm;have hblk:tc h b=aHA h V 8:=by unfold tc;rw[hWa,hV]
 clear hV
 refine aY.i (σ:=Nat) (λj=>j<=8)
  (λj=>([(0,.ptr 1000 0 none),(10,.ptr 10 0 none),(160,.i .i64 j)],
   [(1000,.mem true 0 [(8,.a64 (aHA h V j))]),(1001,.mem false 0 [(128,.a8 b)]),(10,.mem true 0 [(8,.a64 V)])])) (λj=>8-j) 0 (zero_le _) ?_ ?_
 .refine Le.i [] rfl fc rfl ?_ rfl
  have e0:aHA h V 0=h:=rfl;exact fc
 rintro j hj;have hAl:=kN (v:=V) hh j;refine zB.i ?_ ?_<;>intro hc
 .have hc:(j:Int)<8:=hc
  refine aH.i [[],[],[0],[0,1,2],r_4,[],[5],[5,6],r_8,[0],ek,fe] kX (by kernel_rfl) ?_;refine gB ?_;refine⟨j+1,by omega,by omega,Le.i [] rfl fc rfl ?_ rfl⟩;exact fc
 obtain rfl:j=8:=by have hc:¬(j:Int)<8:=hc;omega
 refine gB ?_;rw[hblk];refine Ret.i (.tup []) [(1000,.mem true 0 [(8,.a64 (aHA h V 8))]),(1001,.mem false 0 [(128,.a8 b)])] [] rfl trivial ⟨rfl,rfl⟩ rfl trivial rfl ?_ rfl;exact fc
@[irreducible] def H32:List UInt32:=[ofNat 1779033703,ofNat 3144134277,ofNat 1013904242,ofNat 2773480762,ofNat 1359893119,ofNat 2600822924,ofNat 528734635,ofNat 1541459225]
theorem aOS:H32=[ofNat 1779033703,ofNat 3144134277,ofNat 1013904242,ofNat 2773480762,ofNat 1359893119,ofNat 2600822924,ofNat 528734635,ofNat 1541459225]:=by unfold H32;rfl
theorem jb:H32.length=8:=by rw[aOS];rfl
def ab (h:List UInt32) (b:List UInt8):Nat->List UInt32
 |0=>h
 |q+1=>yL (ab h b q) ((b.drop (64*q)).take 64)
theorem br {h:List UInt32} (hh:h.length=8) (b:List UInt8):∀q,(ab h b q).length=8
 |0=>hh
 |q+1=>vn (br hh b q) _
def kM (h:List UInt32) (r:SV) (n:UInt64):Ent:=.mem true 0 [(8,.a32 h),(1,r),(1,.u64 n)]
theorem aWC:Sx.Fn Γ.P 72 [] [] (λv M=>v= .ptr 1001 0 none/\M=[(1001,kM H32 .nsl 0)]):=by
 have hH:=aOS;refine aG (Γ:=Γ) (fn:=Tryz.f72) rfl rfl rfl rfl ?_;refine gB ?_;refine Ret.i (.ptr 1001 0 none) [(1001,kM H32 .nsl 0)] [(1001,(3,0,none))] rfl trivial ⟨rfl,rfl⟩ rfl fc rfl fc rfl
def aFF (h:List UInt32) (R b:List UInt8) (n:UInt64) (m:Nat) (old:Mm) (v:SV) (M:Mm):Prop:=
 ∃c,R.length+m<=c/\v= .tup []/\
  M=[(1000,kM (ab h (R++b) ((R.length+m)/64)) (.sl 1005 0 (64*((R.length+m)/64)) (R.length+m-64*((R.length+m)/64)) (c-64*((R.length+m)/64))) (n+ofInt (m:Int)))]++old++
   [(1002,.mem false 0 [(m,.a8 b)]),(1005,.mem true (c-(R.length+m)) [(R.length+m,.a8 (R++b))])]
theorem aUM (h:List UInt32) (l b R:List UInt8) (n:UInt64) (i r c0 sp m:Nat) (hh:h.length=8) (hl:l.length=i+r) (hR:l.drop i=R) (hc0:c0=r+sp) (hb:b.length=m) (hmax:r+m<=100000000):
  Sx.Fn Γ.P 73 [.ptr 1000 0 none,.slx 1002 0 0 m] [(1000,kM h (.sl 1001 0 i r c0) n),(1001,.mem true sp [(i+r,.a8 l)]),(1002,.mem false 0 [(m,.a8 b)])] (aFF h R b n m [(1001,.dead)]):=by
 have hRl:R.length=r:=by rw[<-hR,zlD];omega
 refine aG (Γ:=Γ) (fn:=Tryz.f73) rfl rfl rfl rfl ?_;obtain⟨N,hN⟩:∃x,R.length+m=x:=⟨_,rfl⟩;obtain⟨A,hA⟩:∃x,R++b=x:=⟨_,rfl⟩;have hAl:A.length=N:=by rw[<-hA,zlA,hb,hN]
 have hA2:A=kR i l++take m (drop 0 b):=by rw[bq,hR,List.drop_zero,List.take_of_length_le (by omega),hA]
 refine gB ?_;intro c hc;have hc:R.length+m<=c:=by have:r+m<=c:=hc;omega
 refine gB ?_
 refine aY.i (σ:=Nat) (λq=>q<=N/64)
  (λq=>([(0,.ptr 1000 0 none)],
   [(1000,kM (ab h A q) (.sl 200 0 (64*q) (N-64*q) (c-64*q)) (n+ofInt (m:Int))),(1001,.dead),(1002,.mem false 0 [(m,.a8 b)]),(200,.mem true (c-N) [(N,.a8 A)])])) (λq=>N/64-q) 0 (zero_le _) ?_ ?_
 .refine Le.i [(200,(20,0,none))] rfl ?_ rfl ?_ rfl
  .exact fc
  repeat' first|exact trivial|refine zA.app ?_ ?_|refine zA.zd ?_ ?_|refine zA.cons ?_ ?_|exact fc|fail
  all_goals exact hA2
 rintro q hq;have hbl:=br hh A q;refine zB.i ?_ ?_<;>intro hc1
 .have hc1:((N-64*q:Nat):Int)≥64:=hc1
  refine aH.i [[],[0],[0,1],[],[3],[3,4],[3,4,5],[3,4,5,6],r_8] r_9 (by kernel_rfl) ?_;refine gB ?_;have hB:=rC (ab h A q) ((A.drop (64*q)).take 64) hbl (by simp only[zlT,zlD];omega);refine Call.i hB [(1000,(1000,0,none)),(1001,(200,0,some (64*q)))] rfl fc rfl fc rfl ?_;rintro _ _ ⟨rfl,rfl⟩;refine gB ?_;refine⟨q+1,by omega,by omega,Le.i [] rfl fc rfl ?_ rfl⟩;have e1:64*q+64=64*(q+1):=by omega
  have e2:N-64*q-64=N-64*(q+1):=by omega
  have e3:c-64*q-64=c-64*(q+1):=by omega
  exact fc
 obtain rfl:q=N/64:=by have hc1:¬((N-64*q:Nat):Int)≥64:=hc1;omega
 subst hA;subst hN
 refine Ret.i (.tup []) ([(1000,kM (ab h (R++b) ((R.length+m)/64)) (.sl 1005 0 (64*((R.length+m)/64)) (R.length+m-64*((R.length+m)/64)) (c-64*((R.length+m)/64))) (n+ofInt (m:Int)))]++[(1001,.dead)]++
   [(1002,.mem false 0 [(m,.a8 b)]),(1005,.mem true (c-(R.length+m)) [(R.length+m,.a8 (R++b))])]) [(1005,(200,0,none))] rfl fc ⟨c,hc,rfl,rfl⟩ rfl fc rfl fc rfl
theorem aUN (h:List UInt32) (b:List UInt8) (n:UInt64) (m:Nat) (hh:h.length=8) (hb:b.length=m) (hmax:m<=100000000):
  Sx.Fn Γ.P 73 [.ptr 1000 0 none,.slx 1002 0 0 m] [(1000,kM h .nsl n),(1002,.mem false 0 [(m,.a8 b)])] (aFF h [] b n m []):=by
 refine aG (Γ:=Γ) (fn:=Tryz.f73) rfl rfl rfl rfl ?_;obtain⟨R,hR⟩:∃x:List UInt8,[]=x:=⟨_,rfl⟩;have hRl:R.length=0:=by rw[<-hR];rfl
 rw[hR];obtain⟨N,hN⟩:∃x,R.length+m=x:=⟨_,rfl⟩;obtain⟨A,hA⟩:∃x,R++b=x:=⟨_,rfl⟩;have hAl:A.length=N:=by rw[<-hA,zlA,hb,hN]
 have hA2:A=[]++take m (drop 0 b):=by rw[List.drop_zero,List.take_of_length_le (by omega),hR,hA]
 refine gB ?_;intro c hc;have hc:R.length+m<=c:=by have:0+m<=c:=hc;omega
 refine gB ?_
 refine aY.i (σ:=Nat) (λq=>q<=N/64)
  (λq=>([(0,.ptr 1000 0 none)],
   [(1000,kM (ab h A q) (.sl 200 0 (64*q) (N-64*q) (c-64*q)) (n+ofInt (m:Int))),(1002,.mem false 0 [(m,.a8 b)]),(200,.mem true (c-N) [(N,.a8 A)])])) (λq=>N/64-q) 0 (zero_le _) ?_ ?_
 .refine Le.i [(200,(20,0,none))] rfl ?_ rfl ?_ rfl
  .exact fc
  repeat' first|exact trivial|refine zA.app ?_ ?_|refine zA.zd ?_ ?_|refine zA.cons ?_ ?_|exact fc|fail
  all_goals exact hA2
 rintro q hq;have hbl:=br hh A q;refine zB.i ?_ ?_<;>intro hc1
 .have hc1:((N-64*q:Nat):Int)≥64:=hc1
  refine aH.i [[],[0],[0,1],[],[3],[3,4],[3,4,5],[3,4,5,6],r_8] r_9 (by kernel_rfl) ?_;refine gB ?_;have hB:=rC (ab h A q) ((A.drop (64*q)).take 64) hbl (by simp only[zlT,zlD];omega);refine Call.i hB [(1000,(1000,0,none)),(1001,(200,0,some (64*q)))] rfl fc rfl fc rfl ?_;rintro _ _ ⟨rfl,rfl⟩;refine gB ?_;refine⟨q+1,by omega,by omega,Le.i [] rfl fc rfl ?_ rfl⟩;have e1:64*q+64=64*(q+1):=by omega
  have e2:N-64*q-64=N-64*(q+1):=by omega
  have e3:c-64*q-64=c-64*(q+1):=by omega
  exact fc
 obtain rfl:q=N/64:=by have hc1:¬((N-64*q:Nat):Int)≥64:=hc1;omega
 subst hA;subst hN
 refine Ret.i (.tup []) ([(1000,kM (ab h (R++b) ((R.length+m)/64)) (.sl 1005 0 (64*((R.length+m)/64)) (R.length+m-64*((R.length+m)/64)) (c-64*((R.length+m)/64))) (n+ofInt (m:Int)))]++[]++
   [(1002,.mem false 0 [(m,.a8 b)]),(1005,.mem true (c-(R.length+m)) [(R.length+m,.a8 (R++b))])]) [(1005,(200,0,none))] rfl fc ⟨c,hc,rfl,rfl⟩ rfl fc rfl fc rfl
def oP (r:Nat):Nat:=(119-r)%64
def qi (R:List UInt8) (j:Nat):List UInt8:=R++[128]++replicate j 0
def qk (t:List UInt8) (n:UInt64):Nat->List UInt8
 |0=>t
 |k+1=>qk t n k++[(aF (aQ n 3) (8*(7-k))).toUInt8]
def aNJ (w:List UInt32):Nat->List UInt8
 |0=>replicate 32 0
 |i+1=>(aNJ w i).set i (uL (w.getD (i/4) 0) (24-i%4*8)).toUInt8
def yj (R:List UInt8) (n:UInt64):List UInt8:=qk (qi R (oP R.length)) n 8
def wh (h:List UInt32) (R:List UInt8) (n:UInt64):List UInt8:=aNJ (ab h (yj R n) ((yj R n).length/64)) 32
theorem iB (R:List UInt8) (j:Nat):(qi R j).length=R.length+1+j:=by simp[qi];omega
theorem pL (R:List UInt8) (j:Nat):qi R (j+1)=qi R j++[0]:=by
 unfold qi;rw[List.replicate_succ',append_assoc,append_assoc,append_assoc]
theorem iL (t:List UInt8) (n:UInt64):∀k,(qk t n k).length=t.length+k
 |0=>rfl
 |k+1=>by simp only[qk,zlA,iL t n k,List.length_cons,List.length_nil];omega
theorem j5 (w:List UInt32):∀i,(aNJ w i).length=32
 |0=>List.length_replicate
 |i+1=>by simp only[aNJ,length_set,j5 w i]
theorem nT (h:List UInt32) (R:List UInt8) (n:UInt64):(wh h R n).length=32:=j5 _ _
theorem aYE (h:List UInt32) (l R:List UInt8) (n:UInt64) (t i r:Nat) (hh:h.length=8) (hl:l.length=t) (hi:i+r<=t) (hR:(l.drop i).take r=R) (hr:r<64):
  Sx.Fn Γ.P 74 [.ptr 1000 0 none] [(1000,.mem false 0 [(8,.a32 h),(1,.slx 1001 0 i r),(1,.u64 n)]),(1001,.mem false 0 [(t,.a8 l)])]
   (λv M=>v= .a8 (wh h R n)/\M=[(1000,.mem false 0 [(8,.a32 h),(1,.slx 1001 0 i r),(1,.u64 n)]),(1001,.mem false 0 [(t,.a8 l)])]):=by
 have hRl:R.length=r:=by rw[<-hR,zlT,zlD];omega
 refine aG (Γ:=Γ) (fn:=Tryz.f74) rfl rfl rfl rfl ?_;refine gB ?_;refine aH.i [[],[],[1],[1,2],[1,2,3],r_5,[],r_7,r_8] [0,1,2,3,4,6,5,7,8] (by kernel_rfl) ?_;refine gB ?_;intro c1 hc1;refine gB ?_;refine cL.i [(17,.mem true (zmE (c1-((Ix.lit 0).val+r)) 1) [(zmE ((Ix.lit 0).val+r) 1,.a8 (kR 0 []++take r (drop i l)))]),(12,.dead)] rfl rfl ?_;refine gB ?_;intro c2 hc2;refine gB ?_
 refine aY.i (σ:=Nat×Nat) (λs=>s.1<=oP r/\r+1+s.1<=s.2)
  (λs=>([(0,.ptr 1000 0 none),(2,.ptr 2 0 none),(3,.ptr 3 0 none),(4,.sl 200 0 0 (r+1+s.1) s.2)],
   [(1000,.mem false 0 [(8,.a32 h),(1,.slx 1001 0 i r),(1,.u64 n)]),(1001,.mem false 0 [(t,.a8 l)]),(2,.mem true 0 [(32,.a8 (replicate 32 0))]),(3,.mem true 0 [(8,.a32 h)]),(200,.mem true (s.2-(r+1+s.1)) [(r+1+s.1,.a8 (qi R s.1))])])) (λs=>oP r-s.1) (0,c2) ⟨zero_le _,by have:(Ix.lit 0).val+r+1<=c2:=hc2;show r+1+0<=c2;have e:(Ix.lit 0).val=0:=rfl;omega⟩ ?_ ?_
 .refine Le.i [(200,(19,0,none))] rfl ?_ rfl ?_ rfl
  .exact fc
  repeat' first|exact trivial|refine zA.app ?_ ?_|refine zA.zd ?_ ?_|refine zA.cons ?_ ?_|exact fc|fail
  all_goals(show qi R 0=[]++(take r (drop i l))++take 1 (drop 0 [128]);rw[hR];simp[qi])
 rintro⟨j,c⟩ ⟨hj,hc⟩;have hj:j<=oP r:=hj;have hc:r+1+j<=c:=hc;have hpl:=iB R j;rw[hRl]at hpl;have hz:oP r=(119-r)%64:=rfl;refine gB ?_;refine zB.i ?_ ?_<;>intro hb1
 .have hb1:¬((r+1+j:Nat):Int)%64=56:=hb1
  have hlt:j<oP r:=by omega
  refine gB ?_;intro c' hc';refine gB ?_;have hp1:=pL R j;refine⟨(j+1,c'),⟨hlt,by show r+1+(j+1)<=c';have:r+1+j+1<=c':=hc';omega⟩,by show oP r-(j+1)<oP r-j;omega,Le.i [(200,(26,0,none))] rfl fc rfl fc rfl⟩
 have hb1:¬¬((r+1+j:Nat):Int)%64=56:=hb1;obtain rfl:j=oP r:=by omega
 obtain⟨T0,hT0⟩:∃x,qi R (oP r)=x:=⟨_,rfl⟩;rw[hT0]at hpl;obtain⟨L0,hL0⟩:∃x,r+1+oP r=x:=⟨_,rfl⟩;rw[hL0]at hpl hc;have hL1:L0=56\/L0=120:=by omega
 have hT0':=hT0.symm;have hL0':=hL0.symm;have htail:yj R n=qk T0 n 8:=by unfold yj;rw[hRl,hT0]
 refine aY.i (σ:=Nat×Nat) (λs=>s.1<=8/\L0+s.1<=s.2)
  (λs=>([(0,.ptr 1000 0 none),(2,.ptr 2 0 none),(3,.ptr 3 0 none),(4,.sl 200 0 0 (L0+s.1) s.2),(5,.i .i64 (7-(s.1:Int)))],
   [(1000,.mem false 0 [(8,.a32 h),(1,.slx 1001 0 i r),(1,.u64 n)]),(1001,.mem false 0 [(t,.a8 l)]),(2,.mem true 0 [(32,.a8 (replicate 32 0))]),(3,.mem true 0 [(8,.a32 h)]),(200,.mem true (s.2-(L0+s.1)) [(L0+s.1,.a8 (qk T0 n s.1))])])) (λs=>8-s.1) (0,c) ⟨zero_le _,hc⟩ ?_ ?_
 .clear hT0 hL0
  refine Le.i [] rfl ?_ rfl ?_ rfl
  .exact fc
  have e0:qk T0 n 0=T0:=rfl
  repeat' first|exact trivial|refine zA.app ?_ ?_|refine zA.zd ?_ ?_|refine zA.cons ?_ ?_|exact fc|fail
  all_goals exact hT0'
 clear hT0' hL0';rintro⟨k,c⟩ ⟨hk,hc⟩;have hk:k<=8:=hk;have hc:L0+k<=c:=hc;have hll:=iL T0 n k;rw[hpl]at hll;refine zB.i ?_ ?_<;>intro hb2
 .have hb2:(7-(k:Int))≥0:=hb2
  refine gB ?_;intro c' hc';refine gB ?_;have e7:(8*(7-(k:Int))).toNat=8*(7-k):=by omega
  refine⟨(k+1,c'),⟨by show k+1<=8;omega,by show L0+(k+1)<=c';have:L0+k+1<=c':=hc';omega⟩,by show 8-(k+1)<8-k;omega,Le.i [(200,(42,0,none))] rfl ?_ rfl ?_ rfl⟩
  .exact fc
  repeat' first|exact trivial|refine zA.app ?_ ?_|refine zA.zd ?_ ?_|refine zA.cons ?_ ?_|exact fc|fail
  show qk T0 n (k+1)=qk T0 n k++[(aF (aQ n 3) (8*(7-(k:Int))).toNat).toUInt8];rw[e7];rfl
 obtain rfl:k=8:=by have hb2:¬(7-(k:Int))≥0:=hb2;omega
 obtain⟨T,hT⟩:∃x,qk T0 n 8=x:=⟨_,rfl⟩;obtain⟨L,hL⟩:∃x,L0+8=x:=⟨_,rfl⟩;rw[hT,hL]at hll;rw[hL]at hc;rw[hT]at htail;have hT':=hT.symm;have hsum:wh h R n=aNJ (ab h T (L/64)) 32:=by unfold wh;rw[htail,hll]
 refine aY.i (σ:=Nat) (λq=>q<=L/64)
  (λq=>([(2,.ptr 2 0 none),(3,.ptr 3 0 none),(4,.sl 200 0 (64*q) (L-64*q) (c-64*q))],
   [(1000,.mem false 0 [(8,.a32 h),(1,.slx 1001 0 i r),(1,.u64 n)]),(1001,.mem false 0 [(t,.a8 l)]),(2,.mem true 0 [(32,.a8 (replicate 32 0))]),(3,.mem true 0 [(8,.a32 (ab h T q))]),(200,.mem true (c-L) [(L,.a8 T)])])) (λq=>L/64-q) 0 (zero_le _) ?_ ?_
 .clear hT
  refine Le.i [] rfl ?_ rfl ?_ rfl
  .exact fc
  have e0:ab h T 0=h:=rfl
  repeat' first|exact trivial|refine zA.app ?_ ?_|refine zA.zd ?_ ?_|refine zA.cons ?_ ?_|exact fc|fail
  all_goals exact hT'
 clear hT';rintro q hq;have hbl:=br hh T q;refine zB.i ?_ ?_<;>intro hb3
 .have hb3:((L-64*q:Nat):Int)>0:=hb3
  have hq64:64*q+64<=L:=by omega
  refine gB ?_;have hB:=rC (ab h T q) ((T.drop (64*q)).take 64) hbl (by simp only[zlT,zlD];omega);refine Call.i hB [(1000,(3,0,none)),(1001,(200,0,some (64*q)))] rfl fc rfl fc rfl ?_;rintro _ _ ⟨rfl,rfl⟩;refine gB ?_;have e1:64*q+64=64*(q+1):=by omega
  have e2:L-64*q-64=L-64*(q+1):=by omega
  have e3:c-64*q-64=c-64*(q+1):=by omega
  refine⟨q+1,by omega,by omega,Le.i [] rfl fc rfl fc rfl⟩
 obtain rfl:q=L/64:=by have hb3:¬((L-64*q:Nat):Int)>0:=hb3;omega
 obtain⟨W,hW⟩:∃x,ab h T (L/64)=x:=⟨_,rfl⟩;rw[hW]at hbl hsum;have hW':=hW.symm;refine gB ?_
 refine aY.i (σ:=Nat) (λj=>j<=32)
  (λj=>([(2,.ptr 2 0 none),(3,.ptr 3 0 none),(6,.ptr 6 0 none),(51,.i .i64 j)],
   [(1000,.mem false 0 [(8,.a32 h),(1,.slx 1001 0 i r),(1,.u64 n)]),(1001,.mem false 0 [(t,.a8 l)]),(2,.mem true 0 [(32,.a8 (replicate 32 0))]),(3,.mem true 0 [(8,.a32 W)]),(6,.mem true 0 [(32,.a8 (aNJ W j))])])) (λj=>32-j) 0 (zero_le _) ?_ ?_
 .clear hW
  refine Le.i [] rfl fc rfl fc rfl
 clear hW';rintro j hj;have hol:=j5 W j;refine zB.i ?_ ?_<;>intro hb4
 .have hb4:(j:Int)<32:=hb4
  have ed:((j:Int)/4).toNat=j/4:=by omega
  have es:(24-(j:Int)%4*8).toNat=24-j%4*8:=by omega
  refine gB ?_;refine⟨j+1,by omega,by omega,Le.i [] rfl fc rfl ?_ rfl⟩
  repeat' first|exact trivial|refine zA.app ?_ ?_|refine zA.zd ?_ ?_|refine zA.cons ?_ ?_|exact fc|fail
  all_goals simp only[ed,es,zero_add,zQ,Ix.val,zIn,aNJ]
 obtain rfl:j=32:=by have hb4:¬(j:Int)<32:=hb4;omega
 refine gB ?_;rw[hsum];refine Ret.i (.a8 (aNJ W 32)) [(1000,.mem false 0 [(8,.a32 h),(1,.slx 1001 0 i r),(1,.u64 n)]),(1001,.mem false 0 [(t,.a8 l)])] [] rfl fc ⟨rfl,rfl⟩ rfl fc rfl fc rfl
@[irreducible] def ej (b:List UInt8):List UInt8:=wh (ab H32 b (b.length/64)) (b.drop (64*(b.length/64))) (0+ofInt (b.length:Int))
theorem oq (b:List UInt8):ej b=wh (ab H32 b (b.length/64)) (b.drop (64*(b.length/64))) (0+ofInt (b.length:Int)):=by unfold ej;rfl
theorem cr (b:List UInt8):(ej b).length=32:=by rw[oq];exact nT _ _ _
theorem aN6 (h:List UInt32) (b:List UInt8) (n:UInt64) (m:Nat) (hh:h.length=8) (hb:b.length=m) (hmax:m<=100000000):
  Sx.Fn Γ.P 73 [.ptr 1000 0 none,.slx 1002 0 0 m] [(1000,kM h .nsl n),(1002,.mem false 0 [(m,.a8 b)])]
   (λv M=>∃c,m<=c/\v= .tup []/\M=[(1000,kM (ab h b (m/64)) (.sl 1005 0 (64*(m/64)) (m-64*(m/64)) (c-64*(m/64))) (n+ofInt (m:Int))),
    (1002,.mem false 0 [(m,.a8 b)]),(1005,.mem true (c-m) [(m,.a8 b)])]):=by
 refine Fn.mono (aUN h b n m hh hb hmax) ?_;rintro v M ⟨c,hc,hv,hM⟩;have hz:([]:List UInt8).length+m=m:=zero_add m;rw[hz,List.nil_append]at hM;rw[hz]at hc;exact⟨c,hc,hv,hM⟩
theorem aYF (b:List UInt8) (m:Nat) (hb:b.length=m) (hmax:m<=100000000):Sx.Fn Γ.P 71 [.slx 1002 0 0 m] [(1002,.mem false 0 [(m,.a8 b)])]
  (λv M=>v= .a8 (ej b)/\M=[(1002,.mem false 0 [(m,.a8 b)])]):=by
 refine aG (Γ:=Γ) (fn:=Tryz.f71) rfl rfl rfl rfl ?_;have hP:=aN6 H32 b 0 m jb hb hmax;have hS:=aYE (ab H32 b (m/64)) b (b.drop (64*(m/64))) (0+ofInt (m:Int)) m (64*(m/64)) (m-64*(m/64)) (br jb _ _) hb (by omega) (by rw[List.take_of_length_le (by rw[zlD];omega)]) (by omega);refine gB ?_;refine Call.i aWC [(1001,(1001,0,none))] rfl trivial rfl trivial rfl ?_;rintro _ _ ⟨rfl,rfl⟩;refine gB ?_;refine Call.i hP [(1000,(1001,0,none)),(1002,(1002,0,none)),(1005,(1005,0,none))] rfl fc rfl fc rfl ?_;rintro v M' ⟨c,hc,rfl,rfl⟩;refine gB ?_;have hsl:=nT (ab H32 b (m/64)) (b.drop (64*(m/64))) (0+ofInt (m:Int));refine Call.i hS [(1000,(1001,0,none)),(1001,(1005,0,none))] rfl fc rfl fc rfl ?_;rintro _ _ ⟨rfl,rfl⟩;refine gB ?_;refine Ret.i (.a8 (ej b)) [(1002,.mem false 0 [(m,.a8 b)])] [] rfl ?_ ⟨rfl,rfl⟩ rfl ?_ rfl ?_ rfl
 .exact fc
 .have hs:ej b=wh (ab H32 b (m/64)) (b.drop (64*(m/64))) (0+ofInt (m:Int)):=by rw[oq,hb]
  exact fc
 exact fc
end Go.Proofs.YtaehfiohjkiajaaGreat
