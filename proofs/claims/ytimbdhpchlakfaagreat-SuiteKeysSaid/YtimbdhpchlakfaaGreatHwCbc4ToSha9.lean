/- Walks. -/
import Derived.Test.YtimbdhpchlakfaaGreatHwRa2ToCbc2
import Derived.Test.YtimbdhpchlakfaaGreatHwTabToCu8
set_option linter.unusedSimpArgs false
set_option linter.unusedVariables false
set_option maxHeartbeats 4000000
open UInt64 (ofNat ofInt)
open List (replicate length_set length_replicate take drop append_assoc)
open Nat (zero_le zero_add)
open Option (getD_some)
set_option maxRecDepth 100000
namespace Go.Proofs.YtimbdhpchlakfaaGreat
open Go Go.Sx
theorem aEX {key b:List UInt8} (hk:key.length = 32) (hb:b.length = 16):wB key (aF1 key b) = b:=by
 unfold wB aF1;exact uY (cg hk) hb
def ej (text:List UInt8) (m:Nat):List UInt8:=(List.range m).map (pT text)
theorem sw (text:List UInt8) (m:Nat):ej text (m + 1) = ej text m ++ [pT text m]:=by simp [ej,List.range_succ]
theorem ne (text:List UInt8) {m k:Nat} (h:k < m):(ej text m).getD k 0 = pT text k:=by
 simp [ej,List.getD_eq_getElem?_getD,List.getElem?_range h]
theorem aA2 {last:List UInt8} (hl:last.length = 16) (text:List UInt8) (i:Nat):∀ (m j:Nat),j < 16->m <= 16 ->
  (xKc last text i m).getD j 0 = if j < m then last.getD j 0 ^^^ pT text (16 * i + j) else last.getD j 0
 | 0,j,_,_=>by rw [if_neg (by omega)];rfl
 | m + 1,j,hj,hm=>by
  have ih:=aA2 hl text i m
  have hlen:(xKc last text i m).length = 16:=by rw [fR,hl]
  simp only [xKc]
  rw [List.getD_eq_getElem?_getD,List.getElem?_set]
  by_cases h:m = j
  ·subst h
   rw [if_pos rfl,if_pos (by omega),if_pos (by omega),getD_some,ih m hj (by omega),if_neg (by omega)]
  ·rw [if_neg h,<- List.getD_eq_getElem?_getD,ih j hj (by omega)]
   by_cases h2:j < m
   ·rw [if_pos h2,if_pos (by omega)]
   ·rw [if_neg h2,if_neg (by omega)]
theorem aF3 (a b:UInt8):a ^^^ b ^^^ a = b:=by
 rw [show a ^^^ b ^^^ a = b ^^^ (a ^^^ a) by ac_rfl,UInt8.xor_self,UInt8.xor_zero]
theorem xC {last:List UInt8} (hl:last.length = 16) (text:List UInt8) (i:Nat):∀ j,j <= 16->aCO (ej text (16 * i)) (xKc last text i 16) last j = ej text (16 * i + j)
 | 0,_=>rfl
 | j + 1,h=>by
  simp only [aCO]
  rw [xC hl text i j (by omega),aA2 hl text i 16 j (by omega) (Nat.le_refl _),if_pos (by omega),aF3,<- sw]
  rfl
theorem qi (key bg text:List UInt8):∀ (d k:Nat),∃ r,(bG key bg text (k + d)).2 = (bG key bg text k).2 ++ r
 | 0,k=>⟨[],by simp⟩
 | d + 1,k=>by
  obtain ⟨r,hr⟩:=qi key bg text d k
  refine ⟨r ++ (bG key bg text (k + d + 1)).1,?_⟩
  have e:(bG key bg text (k + (d + 1))).2 = (bG key bg text (k + d)).2 ++ (bG key bg text (k + d + 1)).1:=rfl
  rw [e,hr,append_assoc]
theorem z5 {key bg:List UInt8} (hb:bg.length = 16) (text:List UInt8) {i L:Nat} (h:i < L):ez (bG key bg text L).2 i = (bG key bg text (i + 1)).1:=by
 obtain ⟨r,hr⟩:=qi key bg text (L - (i + 1)) (i + 1)
 rw [show i + 1 + (L - (i + 1)) = L by omega] at hr
 have e:(bG key bg text (i + 1)).2 = (bG key bg text i).2 ++ (bG key bg text (i + 1)).1:=rfl
 have h1:=cr key hb text (i + 1)
 have h2:=eL key hb text i
 unfold ez
 rw [hr,e,append_assoc,<- h2,List.drop_left,<- h1,List.take_left]
theorem wk {key bg:List UInt8} (hk:key.length = 32) (hb:bg.length = 16) (text:List UInt8) {L:Nat}:∀ i,i <= L ->
  unC key bg (bG key bg text L).2 i = ((bG key bg text i).1,ej text (16 * i))
 | 0,_=>rfl
 | i + 1,h=>by
  have ih:=wk hk hb text (L:=L) i (by omega)
  have hl:=cr key hb text i
  simp only [unC,ih]
  rw [z5 hb text (by omega)]
  have e:(bG key bg text (i + 1)).1 = aF1 key (xKc (bG key bg text i).1 text i 16):=rfl
  rw [e,aEX hk (by rw [fR,hl]),xC hl text i 16 (Nat.le_refl _)]
  rfl
theorem jA (key:List UInt8) {bg:List UInt8} (hb:bg.length = 16) (text:List UInt8):(bp key bg text).length = 16 * (text.length / 16 + 1):=eL key hb text _
theorem aGZ (text:List UInt8) {m:Nat} (h:text.length <= m):(ej text m).take text.length = text:=by
 apply List.ext_getElem?
 intro k
 rw [List.getElem?_take]
 by_cases hk:k < text.length
 ·rw [if_pos hk]
  simp only [ej,List.getElem?_map,List.getElem?_range (show k < m by omega),Option.map_some,pT,if_pos hk,List.getElem?_eq_getElem hk,List.getD_eq_getElem?_getD,getD_some]
 ·rw [if_neg hk,List.getElem?_eq_none (by omega)]
theorem aII {key bg:List UInt8} (hk:key.length = 32) (hb:bg.length = 16) (text:List UInt8):bd key bg (bp key bg text) = some text:=by
 have hlen:=jA key hb text
 have hout:gf key bg (bp key bg text) = ej text (16 * (text.length / 16 + 1)):=by
  unfold gf
  rw [hlen,show 16 * (text.length / 16 + 1) / 16 = text.length / 16 + 1 by omega]
  unfold bp
  rw [wk hk hb text _ (Nat.le_refl _)]
 have hpad:∀ k,text.length <= k->(pT text k).toNat = 16 - text.length % 16:=fun k h=>by
  unfold pT og
  rw [if_neg (by omega),UInt8.toNat_ofNat']
  omega
 have hfill:aW key bg (bp key bg text) = 16 - text.length % 16:=by
  unfold aW
  rw [hout,hlen,ne _ (by omega),hpad _ (by omega)]
 unfold bd
 rw [if_neg (by omega),if_neg (by omega),if_pos,hout,hlen,hfill,show 16 * (text.length / 16 + 1) - (16 - text.length % 16) = text.length by omega,aGZ _ (by omega)]
 intro k hk'
 rw [hfill] at hk' ⊢
 rw [hout,hlen,ne _ (by omega),hpad _ (by omega)]
abbrev kq0:List UInt32:=[UInt32.ofNat 1116352408,UInt32.ofNat 1899447441,UInt32.ofNat 3049323471,UInt32.ofNat 3921009573,UInt32.ofNat 961987163,UInt32.ofNat 1508970993,UInt32.ofNat 2453635748,UInt32.ofNat 2870763221,UInt32.ofNat 3624381080,UInt32.ofNat 310598401,UInt32.ofNat 607225278,UInt32.ofNat 1426881987,UInt32.ofNat 1925078388,UInt32.ofNat 2162078206,UInt32.ofNat 2614888103,UInt32.ofNat 3248222580,UInt32.ofNat 3835390401,UInt32.ofNat 4022224774,UInt32.ofNat 264347078,UInt32.ofNat 604807628,UInt32.ofNat 770255983,UInt32.ofNat 1249150122,UInt32.ofNat 1555081692,UInt32.ofNat 1996064986,UInt32.ofNat 2554220882,UInt32.ofNat 2821834349,UInt32.ofNat 2952996808,UInt32.ofNat 3210313671,UInt32.ofNat 3336571891,UInt32.ofNat 3584528711,UInt32.ofNat 113926993,UInt32.ofNat 338241895,UInt32.ofNat 666307205,UInt32.ofNat 773529912,UInt32.ofNat 1294757372,UInt32.ofNat 1396182291,UInt32.ofNat 1695183700,UInt32.ofNat 1986661051,UInt32.ofNat 2177026350,UInt32.ofNat 2456956037,UInt32.ofNat 2730485921,UInt32.ofNat 2820302411,UInt32.ofNat 3259730800,UInt32.ofNat 3345764771,UInt32.ofNat 3516065817,UInt32.ofNat 3600352804,UInt32.ofNat 4094571909,UInt32.ofNat 275423344,UInt32.ofNat 430227734,UInt32.ofNat 506948616,UInt32.ofNat 659060556,UInt32.ofNat 883997877,UInt32.ofNat 958139571,UInt32.ofNat 1322822218,UInt32.ofNat 1537002063,UInt32.ofNat 1747873779,UInt32.ofNat 1955562222,UInt32.ofNat 2024104815,UInt32.ofNat 2227730452,UInt32.ofNat 2361852424,UInt32.ofNat 2428436474,UInt32.ofNat 2756734187,UInt32.ofNat 3204031479,UInt32.ofNat 3329325298]
@[irreducible] def K32:List UInt32:=kq0
theorem aKI:K32 = kq0:=by unfold K32;rfl
theorem aAQ:K32.length = 64:=by rw [aKI];rfl
abbrev kq1:List UInt64:=[ofNat 4794697086780616226,ofNat 8158064640168781261,ofNat 13096744586834688815,ofNat 16840607885511220156,ofNat 4131703408338449720,ofNat 6480981068601479193,ofNat 10538285296894168987,ofNat 12329834152419229976,ofNat 15566598209576043074,ofNat 1334009975649890238,ofNat 2608012711638119052,ofNat 6128411473006802146,ofNat 8268148722764581231,ofNat 9286055187155687089,ofNat 11230858885718282805,ofNat 13951009754708518548,ofNat 16472876342353939154,ofNat 17275323862435702243,ofNat 1135362057144423861,ofNat 2597628984639134821,ofNat 3308224258029322869,ofNat 5365058923640841347,ofNat 6679025012923562964,ofNat 8573033837759648693,ofNat 10970295158949994411,ofNat 12119686244451234320,ofNat 12683024718118986047,ofNat 13788192230050041572,ofNat 14330467153632333762,ofNat 15395433587784984357,ofNat 489312712824947311,ofNat 1452737877330783856,ofNat 2861767655752347644,ofNat 3322285676063803686,ofNat 5560940570517711597,ofNat 5996557281743188959,ofNat 7280758554555802590,ofNat 8532644243296465576,ofNat 9350256976987008742,ofNat 10552545826968843579,ofNat 11727347734174303076,ofNat 12113106623233404929,ofNat 14000437183269869457,ofNat 14369950271660146224,ofNat 15101387698204529176,ofNat 15463397548674623760,ofNat 17586052441742319658,ofNat 1182934255886127544,ofNat 1847814050463011016,ofNat 2177327727835720531,ofNat 2830643537854262169,ofNat 3796741975233480872,ofNat 4115178125766777443,ofNat 5681478168544905931,ofNat 6601373596472566643,ofNat 7507060721942968483,ofNat 8399075790359081724,ofNat 8693463985226723168,ofNat 9568029438360202098,ofNat 10144078919501101548,ofNat 10430055236837252648,ofNat 11840083180663258601,ofNat 13761210420658862357,ofNat 14299343276471374635,ofNat 14566680578165727644,ofNat 15097957966210449927,ofNat 16922976911328602910,ofNat 17689382322260857208,ofNat 500013540394364858,ofNat 748580250866718886,ofNat 1242879168328830382,ofNat 1977374033974150939,ofNat 2944078676154940804,ofNat 3659926193048069267,ofNat 4368137639120453308,ofNat 4836135668995329356,ofNat 5532061633213252278,ofNat 6448918945643986474,ofNat 6902733635092675308,ofNat 7801388544844847127]
@[irreducible] def K64:List UInt64:=kq1
theorem aFR:K64 = kq1:=by unfold K64;rfl
theorem aAP:K64.length = 80:=by rw [aFR];rfl
def yl (x:UInt32) (n:Nat):UInt32:=sP x (32 - n) ||| sO x n
def qA (x:UInt64) (n:Nat):UInt64:=aV x (64 - n) ||| aG x n
theorem aUL:∀ n:Nat,n < 32->0 < n->(ofInt (-(n:Int)) &&& 31).toNat = 32 - n/\((32:UInt64) - (ofInt (-(n:Int)) &&& 31)).toNat = n:=by decide
theorem aUK:∀ n:Nat,n < 64->0 < n->(ofInt (-(n:Int)) &&& 63).toNat = 64 - n/\((64:UInt64) - (ofInt (-(n:Int)) &&& 63)).toNat = n:=by decide
theorem pf (x:UInt32) (n:Nat) (h:n < 32) (h0:0 < n):Sx.Fn Γ.P 171 [.u32 x,.i .i64 (-(n:Int))] [] (fun v _=>v = .u32 (yl x n)):=by
 refine aF (Γ:=Γ) (fn:=Tryz.f171) rfl rfl rfl rfl ?_
 refine Ret.intro (.u32 (yl x n)) [] [] rfl trivial rfl rfl ?_ rfl trivial rfl
 obtain ⟨e1,e2⟩:=aUL n h h0
 show yl x n = sP x (ofInt (-(n:Int)) &&& 31).toNat ||| sO x ((32:UInt64) - (ofInt (-(n:Int)) &&& 31)).toNat
 rw [e1,e2];rfl
theorem pe (x:UInt64) (n:Nat) (h:n < 64) (h0:0 < n):Sx.Fn Γ.P 172 [.u64 x,.i .i64 (-(n:Int))] [] (fun v _=>v = .u64 (qA x n)):=by
 refine aF (Γ:=Γ) (fn:=Tryz.f172) rfl rfl rfl rfl ?_
 refine Ret.intro (.u64 (qA x n)) [] [] rfl trivial rfl rfl ?_ rfl trivial rfl
 obtain ⟨e1,e2⟩:=aUK n h h0
 show qA x n = aV x (ofInt (-(n:Int)) &&& 63).toNat ||| aG x ((64:UInt64) - (ofInt (-(n:Int)) &&& 63)).toNat
 rw [e1,e2];rfl
def aKM (b:List UInt8):Nat->List UInt32
 | 0=>replicate 64 0
 | i + 1=>(aKM b i).set i (sP (b.getD (4 * i) 0).toUInt32 24 ||| sP (b.getD (4 * i + 1) 0).toUInt32 16 ||| sP (b.getD (4 * i + 2) 0).toUInt32 8 ||| (b.getD (4 * i + 3) 0).toUInt32)
def aUZ (w:List UInt32) (i:Nat):UInt32:=
 w.getD (i - 16) 0 + w.getD (i - 7) 0 + (yl (w.getD (i - 15) 0) 7 ^^^ yl (w.getD (i - 15) 0) 18 ^^^ sO (w.getD (i - 15) 0) 3) + (yl (w.getD (i - 2) 0) 17 ^^^ yl (w.getD (i - 2) 0) 19 ^^^ sO (w.getD (i - 2) 0) 10)
def yR (w:List UInt32):Nat->List UInt32
 | 0=>w
 | k + 1=>(yR w k).set (16 + k) (aUZ (yR w k) (16 + k))
def aOY (v:List UInt32) (k w:UInt32):UInt32:=
 v.getD 7 0 + (yl (v.getD 4 0) 6 ^^^ yl (v.getD 4 0) 11 ^^^ yl (v.getD 4 0) 25) + (v.getD 4 0 &&& v.getD 5 0 ^^^ ~~~(v.getD 4 0) &&& v.getD 6 0) + k + w
def aR4 (v:List UInt32):UInt32:=
 (yl (v.getD 0 0) 2 ^^^ yl (v.getD 0 0) 13 ^^^ yl (v.getD 0 0) 22) + (v.getD 0 0 &&& v.getD 1 0 ^^^ v.getD 0 0 &&& v.getD 2 0 ^^^ v.getD 1 0 &&& v.getD 2 0)
def aU1 (v:List UInt32) (k w:UInt32):List UInt32:=
 [aOY v k w + aR4 v,v.getD 0 0,v.getD 1 0,v.getD 2 0,v.getD 3 0 + aOY v k w,v.getD 4 0,v.getD 5 0,v.getD 6 0]
def kd (w v:List UInt32):Nat->List UInt32
 | 0=>v
 | i + 1=>aU1 (kd w v i) (K32.getD i 0) (w.getD i 0)
def aHK (h v:List UInt32):Nat->List UInt32
 | 0=>h
 | i + 1=>(aHK h v i).set i ((aHK h v i).getD i 0 + v.getD i 0)
def aA7 (b:List UInt8):List UInt32:=yR (aKM b 16) 48
def wM (h:List UInt32) (b:List UInt8):List UInt32:=aHK h (kd (aA7 b) h 64) 8
theorem nA (b:List UInt8):∀ i,(aKM b i).length = 64
 | 0=>length_replicate
 | i + 1=>by simp only [aKM,length_set,nA b i]
theorem nD {w:List UInt32} (h:w.length = 64):∀ i,(yR w i).length = 64
 | 0=>h
 | i + 1=>by simp only [yR,length_set,nD h i]
theorem sh {w v:List UInt32} (h:v.length = 8):∀ i,(kd w v i).length = 8
 | 0=>h
 | i + 1=>rfl
theorem jd {h v:List UInt32} (hh:h.length = 8):∀ i,(aHK h v i).length = 8
 | 0=>hh
 | i + 1=>by simp only [aHK,length_set,jd hh i]
theorem t7 {h:List UInt32} (hh:h.length = 8) (b:List UInt8):(wM h b).length = 8:=jd hh 8
theorem aMJ (h:List UInt32) (b:List UInt8) (hh:h.length = 8) (hb:b.length = 64):Sx.Fn Γ.P 155 [.ptr 1000 0 none,.slx 1001 0 0 64] [(1000,.mem true 0 [(8,.a32 h)]),(1001,.mem false 0 [(64,.a8 b)])]
  (fun v M=>v = .tup []/\M = [(1000,.mem true 0 [(8,.a32 (wM h b))]),(1001,.mem false 0 [(64,.a8 b)])]):=by
 have hK:=aKI
 have hKl:=aAQ
 refine aF (Γ:=Γ) (fn:=Tryz.f155) rfl rfl rfl rfl ?_
 repeat refine sd ?_
 refine ac.intro (σ:=Nat) (fun i=>i <= 16)
  (fun i=>([(0,.ptr 1000 0 none),(1,.slx 1001 0 0 64),(4,.ptr 4 0 none),(5,.ptr 5 0 none),(18,.i .i64 i)],
   [(1000,.mem true 0 [(8,.a32 h)]),(1001,.mem false 0 [(64,.a8 b)]),(4,.mem true 0 [(64,.a32 K32)]),(5,.mem true 0 [(64,.a32 (aKM b i))])])) (fun i=>16 - i) 0 (zero_le _) ?_ ?_
 ·refine Le.intro [] rfl fc rfl ?_ rfl
  exact fc
 rintro i hi
 have hl:=nA b i
 refine zB.intro (fun hc=>?_) (fun hc=>?_)
 ·have hc:(i:Int) < 16:=hc
  have e0:(4 * (i:Int)).toNat = 4 * i:=by omega
  have e1:(4 * (i:Int) + 1).toNat = 4 * i + 1:=by omega
  have e2:(4 * (i:Int) + 2).toNat = 4 * i + 2:=by omega
  have e3:(4 * (i:Int) + 3).toNat = 4 * i + 3:=by omega
  refine aI.intro [[],[],[],[2],[1,2,3],[1,2,3,4],[1,2,3,4,5],[1,2,3,4,5,6],[],[],[9],[9,10],[8,9,10,11],[8,9,10,11,12],[8,9,10,11,12,13],[8,9,10,11,12,13,14],[1,2,3,4,5,6,7,8,9,10,11,12,13,14,15],[],[],[18],[18,19],[17,18,19,20],[17,18,19,20,21],[17,18,19,20,21,22],[17,18,19,20,21,22,23],[1,2,3,4,5,6,7,8,9,10,11,12,13,14,15,16,17,18,19,20,21,22,23,24],[],[],[27],[27,28],[26,27,28,29],[26,27,28,29,30],[26,27,28,29,30,31],[1,2,3,4,5,6,7,8,9,10,11,12,13,14,15,16,17,18,19,20,21,22,23,24,25,26,27,28,29,30,31,32],aSI,[0,1,2,3,4,5,6,7,8,9,10,11,12,13,14,15,16,17,18,19,20,21,22,23,24,25,26,27,28,29,30,31,32,33,34]] [0,1,2,3,4,5,6,7,8,9,10,11,12,13,14,15,16,17,18,19,20,21,22,23,24,25,26,27,28,29,30,31,32,33,34,35] (by kernel_rfl) ?_
  repeat (refine d0.intro (by repeat' (first | (show zA _;first | exact trivial|refine zA.app ?_ ?_|refine zA.zd ?_ ?_|refine zA.cons ?_ ?_) | with_reducible rfl | with_reducible assumption | omega | (simp only [zero_add,e0,e1,e2,e3,rng,Ix.val,zQ,addI,szs] <;> omega) | (simp only [zero_add,e0,e1,e2,e3,rng,Ix.val,zIn,zme,zQ,addI,Option.getD_none,getD_some,zlT,zlD,zlA,length_set,length_replicate,szs, *] <;> omega) | (simp only [Ix.val];with_reducible assumption) | exact UInt8.toNat_lt _ | (apply Eq.trans;(with_reducible assumption);exact rfl) | exact rfl | exact fun _ _=>rfl)) ?_)
  refine ⟨i + 1,by omega,by omega,Le.intro [] rfl fc rfl ?_ rfl⟩
  exact fc
 ·obtain rfl:i = 16:=by have hc:¬ (i:Int) < 16:=hc;omega
  obtain ⟨W0,hW0⟩:∃ x,aKM b 16 = x:=⟨_,rfl⟩
  rw [hW0] at hl
  refine ac.intro (σ:=Nat) (fun k=>k <= 48)
   (fun k=>([(0,.ptr 1000 0 none),(4,.ptr 4 0 none),(5,.ptr 5 0 none),(7,.i .i64 ((k:Int) + 16))],
    [(1000,.mem true 0 [(8,.a32 h)]),(1001,.mem false 0 [(64,.a8 b)]),(4,.mem true 0 [(64,.a32 K32)]),(5,.mem true 0 [(64,.a32 (yR W0 k))])])) (fun k=>48 - k) 0 (zero_le _) ?_ ?_
  ·refine Le.intro [] rfl fc rfl ?_ rfl
   have e0:yR W0 0 = aKM b 16:=hW0.symm
   exact fc
  rintro k hk
  have hl:=nD hl k
  refine zB.intro (fun hc=>?_) (fun hc=>?_)
  ·have hc:(k:Int) + 16 < 64:=hc
   have e0:((k:Int) + 16).toNat = 16 + k:=by omega
   have e1:((k:Int) + 16 - 16).toNat = 16 + k - 16:=by omega
   have e2:((k:Int) + 16 - 7).toNat = 16 + k - 7:=by omega
   have e3:((k:Int) + 16 - 15).toNat = 16 + k - 15:=by omega
   have e4:((k:Int) + 16 - 2).toNat = 16 + k - 2:=by omega
   refine aI.intro [[],[0],[0,1],[0,1,2],[],[4],[4,5],[4,5,6],r_4,r_9] fi (by kernel_rfl) ?_
   repeat refine sdE ?_
   refine aI.intro [[],[],[1],[1,2],[1,2,3],[],[5],[5,6],[5,6,7],[1,2,3,4,5,6,7,8],[],[10],[],[10,11,12],[10,11,12,13],[],[15],[10,11,12,13,14,15,16],[1,2,3,4,5,6,7,8,9,10,11,12,13,14,15,16,17],[],[10,11,12,13,19],[],[10,11,12,13,19,20,21],[10,11,12,13,19,20,21,22],[],[24],[10,11,12,13,19,20,21,22,23,24,25],[1,2,3,4,5,6,7,8,9,10,11,12,13,14,15,16,17,18,19,20,21,22,23,24,25,26],aSK,aI2] [0,1,2,3,4,5,6,7,8,9,10,12,15,16,19,21,24,25,11,13,14,17,18,20,22,23,26,27,28,29] (by kernel_rfl) ?_
   repeat refine sdE ?_
   refine Call.pure (pf ((yR W0 k).getD (16 + k - 15) 0) 7 (by decide) (by decide)) rfl fcG ?_
   rintro _ rfl
   refine dC.intro [] rfl rfl ?_
   refine Call.pure (pf ((yR W0 k).getD (16 + k - 15) 0) 18 (by decide) (by decide)) rfl fcG ?_
   rintro _ rfl
   refine dC.intro [] rfl rfl ?_
   refine Call.pure (pf ((yR W0 k).getD (16 + k - 2) 0) 17 (by decide) (by decide)) rfl fcH ?_
   rintro _ rfl
   refine dC.intro [] rfl rfl ?_
   refine Call.pure (pf ((yR W0 k).getD (16 + k - 2) 0) 19 (by decide) (by decide)) rfl fcH ?_
   rintro _ rfl
   refine dC.intro [] rfl rfl ?_
   repeat refine sdE ?_
   refine ⟨k + 1,by omega,by omega,Le.intro [] rfl fc rfl ?_ rfl⟩
   repeat' first|exact trivial|refine zA.app ?_ ?_|refine zA.zd ?_ ?_|refine zA.cons ?_ ?_|exact fc|fail
   simp only [zero_add,e0,e1,e2,e3,e4,zQ,Ix.val,zIn,yR,aUZ]
  ·obtain rfl:k = 48:=by have hc:¬ (k:Int) + 16 < 64:=hc;omega
   obtain ⟨W,hW⟩:∃ x,yR W0 48 = x:=⟨_,rfl⟩
   rw [hW] at hl
   have hWa:aA7 b = W:=by unfold aA7;rw [hW0,hW]
   repeat refine sd ?_
   refine ac.intro (σ:=Nat) (fun i=>i <= 64)
    (fun i=>([(0,.ptr 1000 0 none),(4,.ptr 4 0 none),(5,.ptr 5 0 none),(10,.ptr 10 0 none),(101,.i .i64 i)],
     [(1000,.mem true 0 [(8,.a32 h)]),(1001,.mem false 0 [(64,.a8 b)]),(4,.mem true 0 [(64,.a32 K32)]),(5,.mem true 0 [(64,.a32 W)]),(10,.mem true 0 [(8,.a32 (kd W h i))])])) (fun i=>64 - i) 0 (zero_le _) ?_ ?_
   ·refine Le.intro [] rfl fc rfl ?_ rfl
    have e0:kd W h 0 = h:=rfl
    have hW':=hW.symm
    exact fc
   rintro i hi
   have hvl:=sh (w:=W) hh i
   obtain ⟨V,hV⟩:∃ x,kd W h i = x:=⟨_,rfl⟩
   rw [hV] at hvl
   have hnext:kd W h (i + 1) = aU1 V (K32.getD i 0) (W.getD i 0):=by rw [<- hV];rfl
   refine zB.intro (fun hc=>?_) (fun hc=>?_)
   ·have hc:(i:Int) < 64:=hc
    refine aI.intro [[],[0],[],[2],[0,1],r_5] r_6 (by kernel_rfl) ?_
    repeat refine sd ?_
    refine aI.intro [[],[0],[],[2],[],[2,3,4],[2,3,4,5],[],[2,3,4,5,7],[2,3,4,5,6,7,8],fi,[],[],[12],[11,12,13],[],[15],[],[17],[15,16,17,18],[11,12,13,14,15,16,17,18,19],aRL,[],[22],[22,23],aOI,[],[26],[26,27],aI2,aNL] [0,1,2,4,7,11,12,13,14,15,16,17,18,19,20,22,23,24,26,27,28,3,5,6,8,9,10,21,25,29,30] (by kernel_rfl) ?_
    repeat refine sd ?_
    refine Call.pure (pf ((kd W h i).getD 4 0) 6 (by decide) (by decide)) rfl fc ?_
    rintro _ rfl
    refine dC.intro [] rfl rfl ?_
    refine Call.pure (pf ((kd W h i).getD 4 0) 11 (by decide) (by decide)) rfl fc ?_
    rintro _ rfl
    refine dC.intro [] rfl rfl ?_
    refine Call.pure (pf ((kd W h i).getD 4 0) 25 (by decide) (by decide)) rfl fc ?_
    rintro _ rfl
    refine dC.intro [] rfl rfl ?_
    repeat refine sd ?_
    refine aI.intro [[],[0],[],[0,1,2],r_4,[],[0,1,2,3,5],r_7,[],[],[9],[8,9,10],[],[],[13],[12,13,14],[8,9,10,11,12,13,14,15],[],[17],[],[19],[17,18,19,20],[8,9,10,11,12,13,14,15,16,17,18,19,20,21],aRK,aOJ] [0,2,5,8,9,10,11,12,13,14,15,16,17,18,19,20,21,22,1,3,4,6,7,23,24] (by kernel_rfl) ?_
    repeat refine sd ?_
    refine Call.pure (pf ((kd W h i).getD 0 0) 2 (by decide) (by decide)) rfl fc ?_
    rintro _ rfl
    refine dC.intro [] rfl rfl ?_
    refine Call.pure (pf ((kd W h i).getD 0 0) 13 (by decide) (by decide)) rfl fc ?_
    rintro _ rfl
    refine dC.intro [] rfl rfl ?_
    refine Call.pure (pf ((kd W h i).getD 0 0) 22 (by decide) (by decide)) rfl fc ?_
    rintro _ rfl
    refine dC.intro [] rfl rfl ?_
    repeat refine sd ?_
    refine ⟨i + 1,by omega,by omega,Le.intro [] rfl fc rfl ?_ rfl⟩
    exact fc
   ·obtain rfl:i = 64:=by have hc:¬ (i:Int) < 64:=hc;omega
    have hV':=hV.symm
    have hblk:wM h b = aHK h V 8:=by unfold wM;rw [hWa,hV]
    clear hV
    refine ac.intro (σ:=Nat) (fun j=>j <= 8)
     (fun j=>([(0,.ptr 1000 0 none),(10,.ptr 10 0 none),(181,.i .i64 j)],
      [(1000,.mem true 0 [(8,.a32 (aHK h V j))]),(1001,.mem false 0 [(64,.a8 b)]),(10,.mem true 0 [(8,.a32 V)])])) (fun j=>8 - j) 0 (zero_le _) ?_ ?_
    ·refine Le.intro [] rfl fc rfl ?_ rfl
     have e0:aHK h V 0 = h:=rfl
     exact fc
    rintro j hj
    have hAl:=jd (v:=V) hh j
    refine zB.intro (fun hc=>?_) (fun hc=>?_)
    ·have hc:(j:Int) < 8:=hc
     refine aI.intro [[],[],[0],[0,1,2],r_4,[],[5],[5,6],r_8,[0],fi,fy] mR (by kernel_rfl) ?_
     repeat refine sd ?_
     refine ⟨j + 1,by omega,by omega,Le.intro [] rfl fc rfl ?_ rfl⟩
     exact fc
    ·obtain rfl:j = 8:=by have hc:¬ (j:Int) < 8:=hc;omega
     repeat refine sd ?_
     rw [hblk]
     refine Ret.intro (.tup []) [(1000,.mem true 0 [(8,.a32 (aHK h V 8))]),(1001,.mem false 0 [(64,.a8 b)])] [] rfl trivial ⟨rfl,rfl⟩ rfl trivial rfl ?_ rfl
     exact fc
def uI (b:List UInt8):Nat->List UInt64
 | 0=>replicate 80 0
 | i + 1=>(uI b i).set (i / 8) (aV ((uI b i).getD (i / 8) 0) 8 ||| (b.getD i 0).toUInt64)
def aN1 (w:List UInt64) (i:Nat):UInt64:=
 w.getD (i - 16) 0 + w.getD (i - 7) 0 + (qA (w.getD (i - 15) 0) 1 ^^^ qA (w.getD (i - 15) 0) 8 ^^^ aG (w.getD (i - 15) 0) 7) + (qA (w.getD (i - 2) 0) 19 ^^^ qA (w.getD (i - 2) 0) 61 ^^^ aG (w.getD (i - 2) 0) 6)
def uJ (w:List UInt64):Nat->List UInt64
 | 0=>w
 | k + 1=>(uJ w k).set (16 + k) (aN1 (uJ w k) (16 + k))
def aLC (v:List UInt64) (k w:UInt64):UInt64:=
 v.getD 7 0 + (qA (v.getD 4 0) 14 ^^^ qA (v.getD 4 0) 18 ^^^ qA (v.getD 4 0) 41) + (v.getD 4 0 &&& v.getD 5 0 ^^^ ~~~(v.getD 4 0) &&& v.getD 6 0) + k + w
def aN2 (v:List UInt64):UInt64:=
 (qA (v.getD 0 0) 28 ^^^ qA (v.getD 0 0) 34 ^^^ qA (v.getD 0 0) 39) + (v.getD 0 0 &&& v.getD 1 0 ^^^ v.getD 0 0 &&& v.getD 2 0 ^^^ v.getD 1 0 &&& v.getD 2 0)
def aRI (v:List UInt64) (k w:UInt64):List UInt64:=
 [aLC v k w + aN2 v,v.getD 0 0,v.getD 1 0,v.getD 2 0,v.getD 3 0 + aLC v k w,v.getD 4 0,v.getD 5 0,v.getD 6 0]
def jK (w v:List UInt64):Nat->List UInt64
 | 0=>v
 | i + 1=>aRI (jK w v i) (K64.getD i 0) (w.getD i 0)
def aDW (h v:List UInt64):Nat->List UInt64
 | 0=>h
 | i + 1=>(aDW h v i).set i ((aDW h v i).getD i 0 + v.getD i 0)
def wj (b:List UInt8):List UInt64:=uJ (uI b 128) 64
def rp (h:List UInt64) (b:List UInt8):List UInt64:=aDW h (jK (wj b) h 80) 8
theorem mz (b:List UInt8):∀ i,(uI b i).length = 80
 | 0=>length_replicate
 | i + 1=>by simp only [uI,length_set,mz b i]
theorem nC {w:List UInt64} (h:w.length = 80):∀ i,(uJ w i).length = 80
 | 0=>h
 | i + 1=>by simp only [uJ,length_set,nC h i]
theorem sg {w v:List UInt64} (h:v.length = 8):∀ i,(jK w v i).length = 8
 | 0=>h
 | i + 1=>rfl
theorem jc {h v:List UInt64} (hh:h.length = 8):∀ i,(aDW h v i).length = 8
 | 0=>hh
 | i + 1=>by simp only [aDW,length_set,jc hh i]
theorem tz {h:List UInt64} (hh:h.length = 8) (b:List UInt8):(rp h b).length = 8:=jc hh 8
theorem aQB (h:List UInt64) (b:List UInt8) (hh:h.length = 8) (hb:b.length = 128):Sx.Fn Γ.P 157 [.ptr 1000 0 none,.slx 1001 0 0 128] [(1000,.mem true 0 [(8,.a64 h)]),(1001,.mem false 0 [(128,.a8 b)])]
  (fun v M=>v = .tup []/\M = [(1000,.mem true 0 [(8,.a64 (rp h b))]),(1001,.mem false 0 [(128,.a8 b)])]):=by
 have hK:=aFR
 have hKl:=aAP
 refine aF (Γ:=Γ) (fn:=Tryz.f157) rfl rfl rfl rfl ?_
 repeat refine sd ?_
 refine ac.intro (σ:=Nat) (fun i=>i <= 128)
  (fun i=>([(0,.ptr 1000 0 none),(1,.slx 1001 0 0 128),(4,.ptr 4 0 none),(5,.ptr 5 0 none),(18,.i .i64 i)],
   [(1000,.mem true 0 [(8,.a64 h)]),(1001,.mem false 0 [(128,.a8 b)]),(4,.mem true 0 [(80,.a64 K64)]),(5,.mem true 0 [(80,.a64 (uI b i))])])) (fun i=>128 - i) 0 (zero_le _) ?_ ?_
 ·refine Le.intro [] rfl fc rfl ?_ rfl
  exact fc
 rintro i hi
 have hl:=mz b i
 refine zB.intro (fun hc=>?_) (fun hc=>?_)
 ·have hc:(i:Int) < 128:=hc
  have e0:((i:Int) / 8).toNat = i / 8:=by omega
  refine aI.intro [[],[0],[],[2],[2,3],[2,3,4],[2,3,4,5],[],[],[7,8],[7,8,9],[7,8,9,10],[2,3,4,5,6,7,8,9,10,11],nb,sj] uM (by kernel_rfl) ?_
  repeat refine sdF ?_
  refine ⟨i + 1,by omega,by omega,Le.intro [] rfl fc rfl ?_ rfl⟩
  repeat' first|exact trivial|refine zA.app ?_ ?_|refine zA.zd ?_ ?_|refine zA.cons ?_ ?_|exact fc|fail
  all_goals simp only [zero_add,e0,zQ,Ix.val,zIn,uI]
 ·obtain rfl:i = 128:=by have hc:¬ (i:Int) < 128:=hc;omega
  obtain ⟨W0,hW0⟩:∃ x,uI b 128 = x:=⟨_,rfl⟩
  rw [hW0] at hl
  refine ac.intro (σ:=Nat) (fun k=>k <= 64)
   (fun k=>([(0,.ptr 1000 0 none),(4,.ptr 4 0 none),(5,.ptr 5 0 none),(7,.i .i64 ((k:Int) + 16))],
    [(1000,.mem true 0 [(8,.a64 h)]),(1001,.mem false 0 [(128,.a8 b)]),(4,.mem true 0 [(80,.a64 K64)]),(5,.mem true 0 [(80,.a64 (uJ W0 k))])])) (fun k=>64 - k) 0 (zero_le _) ?_ ?_
  ·refine Le.intro [] rfl fc rfl ?_ rfl
   have e0:uJ W0 0 = uI b 128:=hW0.symm
   exact fc
  rintro k hk
  have hl:=nC hl k
  refine zB.intro (fun hc=>?_) (fun hc=>?_)
  ·have hc:(k:Int) + 16 < 80:=hc
   have e0:((k:Int) + 16).toNat = 16 + k:=by omega
   have e1:((k:Int) + 16 - 16).toNat = 16 + k - 16:=by omega
   have e2:((k:Int) + 16 - 7).toNat = 16 + k - 7:=by omega
   have e3:((k:Int) + 16 - 15).toNat = 16 + k - 15:=by omega
   have e4:((k:Int) + 16 - 2).toNat = 16 + k - 2:=by omega
   refine aI.intro [[],[0],[0,1],[0,1,2],[],[4],[4,5],[4,5,6],r_4,r_9] fi (by kernel_rfl) ?_
   repeat refine sdE ?_
   refine aI.intro [[],[],[1],[1,2],[1,2,3],[],[5],[5,6],[5,6,7],[1,2,3,4,5,6,7,8],[],[10],[],[10,11,12],[10,11,12,13],[],[15],[10,11,12,13,14,15,16],[1,2,3,4,5,6,7,8,9,10,11,12,13,14,15,16,17],[],[10,11,12,13,19],[],[10,11,12,13,19,20,21],[10,11,12,13,19,20,21,22],[],[24],[10,11,12,13,19,20,21,22,23,24,25],[1,2,3,4,5,6,7,8,9,10,11,12,13,14,15,16,17,18,19,20,21,22,23,24,25,26],aSK,aI2] [0,1,2,3,4,5,6,7,8,9,10,12,15,16,19,21,24,25,11,13,14,17,18,20,22,23,26,27,28,29] (by kernel_rfl) ?_
   repeat refine sdE ?_
   refine Call.pure (pe ((uJ W0 k).getD (16 + k - 15) 0) 1 (by decide) (by decide)) rfl fcG ?_
   rintro _ rfl
   refine dC.intro [] rfl rfl ?_
   refine Call.pure (pe ((uJ W0 k).getD (16 + k - 15) 0) 8 (by decide) (by decide)) rfl fcG ?_
   rintro _ rfl
   refine dC.intro [] rfl rfl ?_
   refine Call.pure (pe ((uJ W0 k).getD (16 + k - 2) 0) 19 (by decide) (by decide)) rfl fcH ?_
   rintro _ rfl
   refine dC.intro [] rfl rfl ?_
   refine Call.pure (pe ((uJ W0 k).getD (16 + k - 2) 0) 61 (by decide) (by decide)) rfl fcH ?_
   rintro _ rfl
   refine dC.intro [] rfl rfl ?_
   repeat refine sdE ?_
   refine ⟨k + 1,by omega,by omega,Le.intro [] rfl fc rfl ?_ rfl⟩
   repeat' first|exact trivial|refine zA.app ?_ ?_|refine zA.zd ?_ ?_|refine zA.cons ?_ ?_|exact fc|fail
   simp only [zero_add,e0,e1,e2,e3,e4,zQ,Ix.val,zIn,uJ,aN1]
  ·obtain rfl:k = 64:=by have hc:¬ (k:Int) + 16 < 80:=hc;omega
   obtain ⟨W,hW⟩:∃ x,uJ W0 64 = x:=⟨_,rfl⟩
   rw [hW] at hl
   have hWa:wj b = W:=by unfold wj;rw [hW0,hW]
   repeat refine sd ?_
   refine ac.intro (σ:=Nat) (fun i=>i <= 80)
    (fun i=>([(0,.ptr 1000 0 none),(4,.ptr 4 0 none),(5,.ptr 5 0 none),(10,.ptr 10 0 none),(80,.i .i64 i)],
     [(1000,.mem true 0 [(8,.a64 h)]),(1001,.mem false 0 [(128,.a8 b)]),(4,.mem true 0 [(80,.a64 K64)]),(5,.mem true 0 [(80,.a64 W)]),(10,.mem true 0 [(8,.a64 (jK W h i))])])) (fun i=>80 - i) 0 (zero_le _) ?_ ?_
   ·refine Le.intro [] rfl fc rfl ?_ rfl
    have e0:jK W h 0 = h:=rfl
    have hW':=hW.symm
    exact fc
   rintro i hi
   have hvl:=sg (w:=W) hh i
   obtain ⟨V,hV⟩:∃ x,jK W h i = x:=⟨_,rfl⟩
   rw [hV] at hvl
   have hnext:jK W h (i + 1) = aRI V (K64.getD i 0) (W.getD i 0):=by rw [<- hV];rfl
   refine zB.intro (fun hc=>?_) (fun hc=>?_)
   ·have hc:(i:Int) < 80:=hc
    refine aI.intro [[],[0],[],[2],[0,1],r_5] r_6 (by kernel_rfl) ?_
    repeat refine sd ?_
    refine aI.intro [[],[0],[],[2],[],[2,3,4],[2,3,4,5],[],[2,3,4,5,7],[2,3,4,5,6,7,8],fi,[],[],[12],[11,12,13],[],[15],[],[17],[15,16,17,18],[11,12,13,14,15,16,17,18,19],aRL,[],[22],[22,23],aOI,[],[26],[26,27],aI2,aNL] [0,1,2,4,7,11,12,13,14,15,16,17,18,19,20,22,23,24,26,27,28,3,5,6,8,9,10,21,25,29,30] (by kernel_rfl) ?_
    repeat refine sd ?_
    refine Call.pure (pe ((jK W h i).getD 4 0) 14 (by decide) (by decide)) rfl fc ?_
    rintro _ rfl
    refine dC.intro [] rfl rfl ?_
    refine Call.pure (pe ((jK W h i).getD 4 0) 18 (by decide) (by decide)) rfl fc ?_
    rintro _ rfl
    refine dC.intro [] rfl rfl ?_
    refine Call.pure (pe ((jK W h i).getD 4 0) 41 (by decide) (by decide)) rfl fc ?_
    rintro _ rfl
    refine dC.intro [] rfl rfl ?_
    repeat refine sd ?_
    refine aI.intro [[],[0],[],[0,1,2],r_4,[],[0,1,2,3,5],r_7,[],[],[9],[8,9,10],[],[],[13],[12,13,14],[8,9,10,11,12,13,14,15],[],[17],[],[19],[17,18,19,20],[8,9,10,11,12,13,14,15,16,17,18,19,20,21],aRK,aOJ] [0,2,5,8,9,10,11,12,13,14,15,16,17,18,19,20,21,22,1,3,4,6,7,23,24] (by kernel_rfl) ?_
    repeat refine sd ?_
    refine Call.pure (pe ((jK W h i).getD 0 0) 28 (by decide) (by decide)) rfl fc ?_
    rintro _ rfl
    refine dC.intro [] rfl rfl ?_
    refine Call.pure (pe ((jK W h i).getD 0 0) 34 (by decide) (by decide)) rfl fc ?_
    rintro _ rfl
    refine dC.intro [] rfl rfl ?_
    refine Call.pure (pe ((jK W h i).getD 0 0) 39 (by decide) (by decide)) rfl fc ?_
    rintro _ rfl
    refine dC.intro [] rfl rfl ?_
    repeat refine sd ?_
    refine ⟨i + 1,by omega,by omega,Le.intro [] rfl fc rfl ?_ rfl⟩
    exact fc
   ·obtain rfl:i = 80:=by have hc:¬ (i:Int) < 80:=hc;omega
    have hV':=hV.symm
    have hblk:rp h b = aDW h V 8:=by unfold rp;rw [hWa,hV]
    clear hV
    refine ac.intro (σ:=Nat) (fun j=>j <= 8)
     (fun j=>([(0,.ptr 1000 0 none),(10,.ptr 10 0 none),(160,.i .i64 j)],
      [(1000,.mem true 0 [(8,.a64 (aDW h V j))]),(1001,.mem false 0 [(128,.a8 b)]),(10,.mem true 0 [(8,.a64 V)])])) (fun j=>8 - j) 0 (zero_le _) ?_ ?_
    ·refine Le.intro [] rfl fc rfl ?_ rfl
     have e0:aDW h V 0 = h:=rfl
     exact fc
    rintro j hj
    have hAl:=jc (v:=V) hh j
    refine zB.intro (fun hc=>?_) (fun hc=>?_)
    ·have hc:(j:Int) < 8:=hc
     refine aI.intro [[],[],[0],[0,1,2],r_4,[],[5],[5,6],r_8,[0],fi,fy] mR (by kernel_rfl) ?_
     repeat refine sd ?_
     refine ⟨j + 1,by omega,by omega,Le.intro [] rfl fc rfl ?_ rfl⟩
     exact fc
    ·obtain rfl:j = 8:=by have hc:¬ (j:Int) < 8:=hc;omega
     repeat refine sd ?_
     rw [hblk]
     refine Ret.intro (.tup []) [(1000,.mem true 0 [(8,.a64 (aDW h V 8))]),(1001,.mem false 0 [(128,.a8 b)])] [] rfl trivial ⟨rfl,rfl⟩ rfl trivial rfl ?_ rfl
     exact fc
@[irreducible] def H32:List UInt32:=[UInt32.ofNat 1779033703,UInt32.ofNat 3144134277,UInt32.ofNat 1013904242,UInt32.ofNat 2773480762,UInt32.ofNat 1359893119,UInt32.ofNat 2600822924,UInt32.ofNat 528734635,UInt32.ofNat 1541459225]
theorem aKJ:H32 = [UInt32.ofNat 1779033703,UInt32.ofNat 3144134277,UInt32.ofNat 1013904242,UInt32.ofNat 2773480762,UInt32.ofNat 1359893119,UInt32.ofNat 2600822924,UInt32.ofNat 528734635,UInt32.ofNat 1541459225]:=by unfold H32;rfl
theorem iq:H32.length = 8:=by rw [aKJ];rfl
def aX (h:List UInt32) (b:List UInt8):Nat->List UInt32
 | 0=>h
 | q + 1=>wM (aX h b q) ((b.drop (64 * q)).take 64)
theorem bn {h:List UInt32} (hh:h.length = 8) (b:List UInt8):∀ q,(aX h b q).length = 8
 | 0=>hh
 | q + 1=>t7 (bn hh b q) _
def jb (h:List UInt32) (r:SV) (n:UInt64):Ent:=.mem true 0 [(8,.a32 h),(1,r),(1,.u64 n)]
theorem aD8:Sx.Fn Γ.P 108 [] [] (fun v M=>v = .ptr 1001 0 none/\M = [(1001,jb H32 .nsl 0)]):=by
 have hH:=aKJ
 refine aF (Γ:=Γ) (fn:=Tryz.f108) rfl rfl rfl rfl ?_
 repeat refine sd ?_
 refine Ret.intro (.ptr 1001 0 none) [(1001,jb H32 .nsl 0)] [(1001,(3,0,none))] rfl trivial ⟨rfl,rfl⟩ rfl fc rfl fc rfl
def aCI (h:List UInt32) (R b:List UInt8) (n:UInt64) (m:Nat) (old:Mm) (v:SV) (M:Mm):Prop:=
 ∃ c,R.length + m <= c/\v = .tup [] /\
  M = [(1000,jb (aX h (R ++ b) ((R.length + m) / 64)) (.sl 1005 0 (64 * ((R.length + m) / 64)) (R.length + m - 64 * ((R.length + m) / 64)) (c - 64 * ((R.length + m) / 64))) (n + ofInt (m:Int)))] ++ old ++
   [(1002,.mem false 0 [(m,.a8 b)]),(1005,.mem true (c - (R.length + m)) [(R.length + m,.a8 (R ++ b))])]
theorem aP2 (h:List UInt32) (l b R:List UInt8) (n:UInt64) (i r c0 sp m:Nat) (hh:h.length = 8) (hl:l.length = i + r) (hR:l.drop i = R) (hc0:c0 = r + sp) (hb:b.length = m) (hmax:r + m <= 100000000) :
  Sx.Fn Γ.P 109 [.ptr 1000 0 none,.slx 1002 0 0 m] [(1000,jb h (.sl 1001 0 i r c0) n),(1001,.mem true sp [(i + r,.a8 l)]),(1002,.mem false 0 [(m,.a8 b)])] (aCI h R b n m [(1001,.dead)]):=by
 have hRl:R.length = r:=by rw [<- hR,zlD];omega
 refine aF (Γ:=Γ) (fn:=Tryz.f109) rfl rfl rfl rfl ?_
 obtain ⟨N,hN⟩:∃ x,R.length + m = x:=⟨_,rfl⟩
 obtain ⟨A,hA⟩:∃ x,R ++ b = x:=⟨_,rfl⟩
 have hAl:A.length = N:=by rw [<- hA,zlA,hb,hN]
 have hA2:A = jf i l ++ take m (drop 0 b):=by rw [bv,hR,List.drop_zero,List.take_of_length_le (by omega),hA]
 repeat refine sd ?_
 intro c hc
 have hc:R.length + m <= c:=by have:r + m <= c:=hc;omega
 repeat refine sd ?_
 refine ac.intro (σ:=Nat) (fun q=>q <= N / 64)
  (fun q=>([(0,.ptr 1000 0 none)],
   [(1000,jb (aX h A q) (.sl 200 0 (64 * q) (N - 64 * q) (c - 64 * q)) (n + ofInt (m:Int))),(1001,.dead),(1002,.mem false 0 [(m,.a8 b)]),(200,.mem true (c - N) [(N,.a8 A)])])) (fun q=>N / 64 - q) 0 (zero_le _) ?_ ?_
 ·refine Le.intro [(200,(20,0,none))] rfl ?_ rfl ?_ rfl
  ·exact fc
  ·repeat' first|exact trivial|refine zA.app ?_ ?_|refine zA.zd ?_ ?_|refine zA.cons ?_ ?_|exact fc|fail
   all_goals exact hA2
 rintro q hq
 have hbl:=bn hh A q
 refine zB.intro (fun hc1=>?_) (fun hc1=>?_)
 ·have hc1:((N - 64 * q:Nat):Int) ≥ 64:=hc1
  refine aI.intro [[],[0],[0,1],[],[3],[3,4],[3,4,5],[3,4,5,6],r_8] r_9 (by kernel_rfl) ?_
  repeat refine sd ?_
  have hB:=aMJ (aX h A q) ((A.drop (64 * q)).take 64) hbl (by simp only [zlT,zlD];omega)
  refine Call.intro hB [(1000,(1000,0,none)),(1001,(200,0,some (64 * q)))] rfl fc rfl fc rfl ?_
  rintro _ _ ⟨rfl,rfl⟩
  repeat refine sd ?_
  refine ⟨q + 1,by omega,by omega,Le.intro [] rfl fc rfl ?_ rfl⟩
  have e1:64 * q + 64 = 64 * (q + 1):=by omega
  have e2:N - 64 * q - 64 = N - 64 * (q + 1):=by omega
  have e3:c - 64 * q - 64 = c - 64 * (q + 1):=by omega
  exact fc
 ·obtain rfl:q = N / 64:=by have hc1:¬ ((N - 64 * q:Nat):Int) ≥ 64:=hc1;omega
  subst hA
  subst hN
  refine Ret.intro (.tup []) ([(1000,jb (aX h (R ++ b) ((R.length + m) / 64)) (.sl 1005 0 (64 * ((R.length + m) / 64)) (R.length + m - 64 * ((R.length + m) / 64)) (c - 64 * ((R.length + m) / 64))) (n + ofInt (m:Int)))] ++ [(1001,.dead)] ++
    [(1002,.mem false 0 [(m,.a8 b)]),(1005,.mem true (c - (R.length + m)) [(R.length + m,.a8 (R ++ b))])]) [(1005,(200,0,none))] rfl fc ⟨c,hc,rfl,rfl⟩ rfl fc rfl fc rfl
theorem aP3 (h:List UInt32) (b:List UInt8) (n:UInt64) (m:Nat) (hh:h.length = 8) (hb:b.length = m) (hmax:m <= 100000000) :
  Sx.Fn Γ.P 109 [.ptr 1000 0 none,.slx 1002 0 0 m] [(1000,jb h .nsl n),(1002,.mem false 0 [(m,.a8 b)])] (aCI h [] b n m []):=by
 refine aF (Γ:=Γ) (fn:=Tryz.f109) rfl rfl rfl rfl ?_
 obtain ⟨R,hR⟩:∃ x:List UInt8,[] = x:=⟨_,rfl⟩
 have hRl:R.length = 0:=by rw [<- hR];rfl
 rw [hR]
 obtain ⟨N,hN⟩:∃ x,R.length + m = x:=⟨_,rfl⟩
 obtain ⟨A,hA⟩:∃ x,R ++ b = x:=⟨_,rfl⟩
 have hAl:A.length = N:=by rw [<- hA,zlA,hb,hN]
 have hA2:A = [] ++ take m (drop 0 b):=by rw [List.drop_zero,List.take_of_length_le (by omega),hR,hA]
 repeat refine sd ?_
 intro c hc
 have hc:R.length + m <= c:=by have:0 + m <= c:=hc;omega
 repeat refine sd ?_
 refine ac.intro (σ:=Nat) (fun q=>q <= N / 64)
  (fun q=>([(0,.ptr 1000 0 none)],
   [(1000,jb (aX h A q) (.sl 200 0 (64 * q) (N - 64 * q) (c - 64 * q)) (n + ofInt (m:Int))),(1002,.mem false 0 [(m,.a8 b)]),(200,.mem true (c - N) [(N,.a8 A)])])) (fun q=>N / 64 - q) 0 (zero_le _) ?_ ?_
 ·refine Le.intro [(200,(20,0,none))] rfl ?_ rfl ?_ rfl
  ·exact fc
  ·repeat' first|exact trivial|refine zA.app ?_ ?_|refine zA.zd ?_ ?_|refine zA.cons ?_ ?_|exact fc|fail
   all_goals exact hA2
 rintro q hq
 have hbl:=bn hh A q
 refine zB.intro (fun hc1=>?_) (fun hc1=>?_)
 ·have hc1:((N - 64 * q:Nat):Int) ≥ 64:=hc1
  refine aI.intro [[],[0],[0,1],[],[3],[3,4],[3,4,5],[3,4,5,6],r_8] r_9 (by kernel_rfl) ?_
  repeat refine sd ?_
  have hB:=aMJ (aX h A q) ((A.drop (64 * q)).take 64) hbl (by simp only [zlT,zlD];omega)
  refine Call.intro hB [(1000,(1000,0,none)),(1001,(200,0,some (64 * q)))] rfl fc rfl fc rfl ?_
  rintro _ _ ⟨rfl,rfl⟩
  repeat refine sd ?_
  refine ⟨q + 1,by omega,by omega,Le.intro [] rfl fc rfl ?_ rfl⟩
  have e1:64 * q + 64 = 64 * (q + 1):=by omega
  have e2:N - 64 * q - 64 = N - 64 * (q + 1):=by omega
  have e3:c - 64 * q - 64 = c - 64 * (q + 1):=by omega
  exact fc
 ·obtain rfl:q = N / 64:=by have hc1:¬ ((N - 64 * q:Nat):Int) ≥ 64:=hc1;omega
  subst hA
  subst hN
  refine Ret.intro (.tup []) ([(1000,jb (aX h (R ++ b) ((R.length + m) / 64)) (.sl 1005 0 (64 * ((R.length + m) / 64)) (R.length + m - 64 * ((R.length + m) / 64)) (c - 64 * ((R.length + m) / 64))) (n + ofInt (m:Int)))] ++ [] ++
    [(1002,.mem false 0 [(m,.a8 b)]),(1005,.mem true (c - (R.length + m)) [(R.length + m,.a8 (R ++ b))])]) [(1005,(200,0,none))] rfl fc ⟨c,hc,rfl,rfl⟩ rfl fc rfl fc rfl
def mv (r:Nat):Nat:=(119 - r) % 64
def pL (R:List UInt8) (j:Nat):List UInt8:=R ++ [128] ++ replicate j 0
def pM (t:List UInt8) (n:UInt64):Nat->List UInt8
 | 0=>t
 | k + 1=>pM t n k ++ [(aG (aV n 3) (8 * (7 - k))).toUInt8]
def aJC (w:List UInt32):Nat->List UInt8
 | 0=>replicate 32 0
 | i + 1=>(aJC w i).set i (sO (w.getD (i / 4) 0) (24 - i % 4 * 8)).toUInt8
def wo (R:List UInt8) (n:UInt64):List UInt8:=pM (pL R (mv R.length)) n 8
def uf (h:List UInt32) (R:List UInt8) (n:UInt64):List UInt8:=aJC (aX h (wo R n) ((wo R n).length / 64)) 32
theorem gG (R:List UInt8) (j:Nat):(pL R j).length = R.length + 1 + j:=by simp [pL];omega
theorem nd (R:List UInt8) (j:Nat):pL R (j + 1) = pL R j ++ [0]:=by
 unfold pL;rw [List.replicate_succ',append_assoc,append_assoc,append_assoc]
theorem gO (t:List UInt8) (n:UInt64):∀ k,(pM t n k).length = t.length + k
 | 0=>rfl
 | k + 1=>by simp only [pM,zlA,gO t n k,List.length_cons,List.length_nil];omega
theorem jO (w:List UInt32):∀ i,(aJC w i).length = 32
 | 0=>length_replicate
 | i + 1=>by simp only [aJC,length_set,jO w i]
theorem mK (h:List UInt32) (R:List UInt8) (n:UInt64):(uf h R n).length = 32:=jO _ _
theorem aQH (h:List UInt32) (l R:List UInt8) (n:UInt64) (t i r:Nat) (hh:h.length = 8) (hl:l.length = t) (hi:i + r <= t) (hR:(l.drop i).take r = R) (hr:r < 64) :
  Sx.Fn Γ.P 110 [.ptr 1000 0 none] [(1000,.mem false 0 [(8,.a32 h),(1,.slx 1001 0 i r),(1,.u64 n)]),(1001,.mem false 0 [(t,.a8 l)])]
   (fun v M=>v = .a8 (uf h R n)/\M = [(1000,.mem false 0 [(8,.a32 h),(1,.slx 1001 0 i r),(1,.u64 n)]),(1001,.mem false 0 [(t,.a8 l)])]):=by
 have hRl:R.length = r:=by rw [<- hR,zlT,zlD];omega
 refine aF (Γ:=Γ) (fn:=Tryz.f110) rfl rfl rfl rfl ?_
 repeat refine sd ?_
 refine aI.intro [[],[],[1],[1,2],[1,2,3],r_5,[],r_7,r_8] [0,1,2,3,4,6,5,7,8] (by kernel_rfl) ?_
 repeat refine sd ?_
 intro c1 hc1
 repeat refine sd ?_
 refine dC.intro [(17,.mem true (zmE (c1 - ((Ix.lit 0).val + r)) 1) [(zmE ((Ix.lit 0).val + r) 1,.a8 (jf 0 [] ++ take r (drop i l)))]),(12,.dead)] rfl rfl ?_
 repeat refine sd ?_
 intro c2 hc2
 repeat refine sd ?_
 refine ac.intro (σ:=Nat × Nat) (fun s=>s.1 <= mv r/\r + 1 + s.1 <= s.2)
  (fun s=>([(0,.ptr 1000 0 none),(2,.ptr 2 0 none),(3,.ptr 3 0 none),(4,.sl 200 0 0 (r + 1 + s.1) s.2)],
   [(1000,.mem false 0 [(8,.a32 h),(1,.slx 1001 0 i r),(1,.u64 n)]),(1001,.mem false 0 [(t,.a8 l)]),(2,.mem true 0 [(32,.a8 (replicate 32 0))]),(3,.mem true 0 [(8,.a32 h)]),(200,.mem true (s.2 - (r + 1 + s.1)) [(r + 1 + s.1,.a8 (pL R s.1))])])) (fun s=>mv r - s.1) (0,c2) ⟨zero_le _,by have:(Ix.lit 0).val + r + 1 <= c2:=hc2;show r + 1 + 0 <= c2;have e:(Ix.lit 0).val = 0:=rfl;omega⟩ ?_ ?_
 ·refine Le.intro [(200,(19,0,none))] rfl ?_ rfl ?_ rfl
  ·exact fc
  ·repeat' first|exact trivial|refine zA.app ?_ ?_|refine zA.zd ?_ ?_|refine zA.cons ?_ ?_|exact fc|fail
   all_goals (show pL R 0 = [] ++ (take r (drop i l)) ++ take 1 (drop 0 [128]);rw [hR];simp [pL])
 rintro ⟨j,c⟩ ⟨hj,hc⟩
 have hj:j <= mv r:=hj
 have hc:r + 1 + j <= c:=hc
 have hpl:=gG R j
 rw [hRl] at hpl
 have hz:mv r = (119 - r) % 64:=rfl
 repeat refine sd ?_
 refine zB.intro (fun hb1=>?_) (fun hb1=>?_)
 ·have hb1:¬ ((r + 1 + j:Nat):Int) % 64 = 56:=hb1
  have hlt:j < mv r:=by omega
  repeat refine sd ?_
  intro c' hc'
  repeat refine sd ?_
  have hp1:=nd R j
  refine ⟨(j + 1,c'),⟨hlt,by show r + 1 + (j + 1) <= c';have:r + 1 + j + 1 <= c':=hc';omega⟩,by show mv r - (j + 1) < mv r - j;omega,Le.intro [(200,(26,0,none))] rfl fc rfl fc rfl⟩
 ·have hb1:¬ ¬ ((r + 1 + j:Nat):Int) % 64 = 56:=hb1
  obtain rfl:j = mv r:=by omega
  obtain ⟨T0,hT0⟩:∃ x,pL R (mv r) = x:=⟨_,rfl⟩
  rw [hT0] at hpl
  obtain ⟨L0,hL0⟩:∃ x,r + 1 + mv r = x:=⟨_,rfl⟩
  rw [hL0] at hpl hc
  have hL1:L0 = 56 \/ L0 = 120:=by omega
  have hT0':=hT0.symm
  have hL0':=hL0.symm
  have htail:wo R n = pM T0 n 8:=by unfold wo;rw [hRl,hT0]
  refine ac.intro (σ:=Nat × Nat) (fun s=>s.1 <= 8/\L0 + s.1 <= s.2)
   (fun s=>([(0,.ptr 1000 0 none),(2,.ptr 2 0 none),(3,.ptr 3 0 none),(4,.sl 200 0 0 (L0 + s.1) s.2),(5,.i .i64 (7 - (s.1:Int)))],
    [(1000,.mem false 0 [(8,.a32 h),(1,.slx 1001 0 i r),(1,.u64 n)]),(1001,.mem false 0 [(t,.a8 l)]),(2,.mem true 0 [(32,.a8 (replicate 32 0))]),(3,.mem true 0 [(8,.a32 h)]),(200,.mem true (s.2 - (L0 + s.1)) [(L0 + s.1,.a8 (pM T0 n s.1))])])) (fun s=>8 - s.1) (0,c) ⟨zero_le _,hc⟩ ?_ ?_
  ·clear hT0 hL0
   refine Le.intro [] rfl ?_ rfl ?_ rfl
   ·exact fc
   ·have e0:pM T0 n 0 = T0:=rfl
    repeat' first|exact trivial|refine zA.app ?_ ?_|refine zA.zd ?_ ?_|refine zA.cons ?_ ?_|exact fc|fail
    all_goals exact hT0'
  clear hT0' hL0'
  rintro ⟨k,c⟩ ⟨hk,hc⟩
  have hk:k <= 8:=hk
  have hc:L0 + k <= c:=hc
  have hll:=gO T0 n k
  rw [hpl] at hll
  refine zB.intro (fun hb2=>?_) (fun hb2=>?_)
  ·have hb2:(7 - (k:Int)) ≥ 0:=hb2
   repeat refine sd ?_
   intro c' hc'
   repeat refine sd ?_
   have e7:(8 * (7 - (k:Int))).toNat = 8 * (7 - k):=by omega
   refine ⟨(k + 1,c'),⟨by show k + 1 <= 8;omega,by show L0 + (k + 1) <= c';have:L0 + k + 1 <= c':=hc';omega⟩,by show 8 - (k + 1) < 8 - k;omega,Le.intro [(200,(42,0,none))] rfl ?_ rfl ?_ rfl⟩
   ·exact fc
   ·repeat' first|exact trivial|refine zA.app ?_ ?_|refine zA.zd ?_ ?_|refine zA.cons ?_ ?_|exact fc|fail
    show pM T0 n (k + 1) = pM T0 n k ++ [(aG (aV n 3) (8 * (7 - (k:Int))).toNat).toUInt8]
    rw [e7]
    rfl
  ·obtain rfl:k = 8:=by have hb2:¬ (7 - (k:Int)) ≥ 0:=hb2;omega
   obtain ⟨T,hT⟩:∃ x,pM T0 n 8 = x:=⟨_,rfl⟩
   obtain ⟨L,hL⟩:∃ x,L0 + 8 = x:=⟨_,rfl⟩
   rw [hT,hL] at hll
   rw [hL] at hc
   rw [hT] at htail
   have hT':=hT.symm
   have hsum:uf h R n = aJC (aX h T (L / 64)) 32:=by unfold uf;rw [htail,hll]
   refine ac.intro (σ:=Nat) (fun q=>q <= L / 64)
    (fun q=>([(2,.ptr 2 0 none),(3,.ptr 3 0 none),(4,.sl 200 0 (64 * q) (L - 64 * q) (c - 64 * q))],
     [(1000,.mem false 0 [(8,.a32 h),(1,.slx 1001 0 i r),(1,.u64 n)]),(1001,.mem false 0 [(t,.a8 l)]),(2,.mem true 0 [(32,.a8 (replicate 32 0))]),(3,.mem true 0 [(8,.a32 (aX h T q))]),(200,.mem true (c - L) [(L,.a8 T)])])) (fun q=>L / 64 - q) 0 (zero_le _) ?_ ?_
   ·clear hT
    refine Le.intro [] rfl ?_ rfl ?_ rfl
    ·exact fc
    ·have e0:aX h T 0 = h:=rfl
     repeat' first|exact trivial|refine zA.app ?_ ?_|refine zA.zd ?_ ?_|refine zA.cons ?_ ?_|exact fc|fail
     all_goals exact hT'
   clear hT'
   rintro q hq
   have hbl:=bn hh T q
   refine zB.intro (fun hb3=>?_) (fun hb3=>?_)
   ·have hb3:((L - 64 * q:Nat):Int) > 0:=hb3
    have hq64:64 * q + 64 <= L:=by omega
    repeat refine sd ?_
    have hB:=aMJ (aX h T q) ((T.drop (64 * q)).take 64) hbl (by simp only [zlT,zlD];omega)
    refine Call.intro hB [(1000,(3,0,none)),(1001,(200,0,some (64 * q)))] rfl fc rfl fc rfl ?_
    rintro _ _ ⟨rfl,rfl⟩
    repeat refine sd ?_
    have e1:64 * q + 64 = 64 * (q + 1):=by omega
    have e2:L - 64 * q - 64 = L - 64 * (q + 1):=by omega
    have e3:c - 64 * q - 64 = c - 64 * (q + 1):=by omega
    refine ⟨q + 1,by omega,by omega,Le.intro [] rfl fc rfl fc rfl⟩
   ·obtain rfl:q = L / 64:=by have hb3:¬ ((L - 64 * q:Nat):Int) > 0:=hb3;omega
    obtain ⟨W,hW⟩:∃ x,aX h T (L / 64) = x:=⟨_,rfl⟩
    rw [hW] at hbl hsum
    have hW':=hW.symm
    repeat refine sd ?_
    refine ac.intro (σ:=Nat) (fun j=>j <= 32)
     (fun j=>([(2,.ptr 2 0 none),(3,.ptr 3 0 none),(6,.ptr 6 0 none),(51,.i .i64 j)],
      [(1000,.mem false 0 [(8,.a32 h),(1,.slx 1001 0 i r),(1,.u64 n)]),(1001,.mem false 0 [(t,.a8 l)]),(2,.mem true 0 [(32,.a8 (replicate 32 0))]),(3,.mem true 0 [(8,.a32 W)]),(6,.mem true 0 [(32,.a8 (aJC W j))])])) (fun j=>32 - j) 0 (zero_le _) ?_ ?_
    ·clear hW
     refine Le.intro [] rfl fc rfl fc rfl
    clear hW'
    rintro j hj
    have hol:=jO W j
    refine zB.intro (fun hb4=>?_) (fun hb4=>?_)
    ·have hb4:(j:Int) < 32:=hb4
     have ed:((j:Int) / 4).toNat = j / 4:=by omega
     have es:(24 - (j:Int) % 4 * 8).toNat = 24 - j % 4 * 8:=by omega
     repeat refine sd ?_
     refine ⟨j + 1,by omega,by omega,Le.intro [] rfl fc rfl ?_ rfl⟩
     repeat' first|exact trivial|refine zA.app ?_ ?_|refine zA.zd ?_ ?_|refine zA.cons ?_ ?_|exact fc|fail
     all_goals simp only [ed,es,zero_add,zQ,Ix.val,zIn,aJC]
    ·obtain rfl:j = 32:=by have hb4:¬ (j:Int) < 32:=hb4;omega
     repeat refine sd ?_
     rw [hsum]
     refine Ret.intro (.a8 (aJC W 32)) [(1000,.mem false 0 [(8,.a32 h),(1,.slx 1001 0 i r),(1,.u64 n)]),(1001,.mem false 0 [(t,.a8 l)])] [] rfl fc ⟨rfl,rfl⟩ rfl fc rfl fc rfl
@[irreducible] def dy (b:List UInt8):List UInt8:=uf (aX H32 b (b.length / 64)) (b.drop (64 * (b.length / 64))) (0 + ofInt (b.length:Int))
theorem nO (b:List UInt8):dy b = uf (aX H32 b (b.length / 64)) (b.drop (64 * (b.length / 64))) (0 + ofInt (b.length:Int)):=by unfold dy;rfl
theorem cV (b:List UInt8):(dy b).length = 32:=by rw [nO];exact mK _ _ _
theorem aJ2 (h:List UInt32) (b:List UInt8) (n:UInt64) (m:Nat) (hh:h.length = 8) (hb:b.length = m) (hmax:m <= 100000000) :
  Sx.Fn Γ.P 109 [.ptr 1000 0 none,.slx 1002 0 0 m] [(1000,jb h .nsl n),(1002,.mem false 0 [(m,.a8 b)])]
   (fun v M=>∃ c,m <= c/\v = .tup []/\M = [(1000,jb (aX h b (m / 64)) (.sl 1005 0 (64 * (m / 64)) (m - 64 * (m / 64)) (c - 64 * (m / 64))) (n + ofInt (m:Int))),
    (1002,.mem false 0 [(m,.a8 b)]),(1005,.mem true (c - m) [(m,.a8 b)])]):=by
 refine Fn.mono (aP3 h b n m hh hb hmax) ?_
 rintro v M ⟨c,hc,hv,hM⟩
 have hz:([]:List UInt8).length + m = m:=zero_add m
 rw [hz,List.nil_append] at hM
 rw [hz] at hc
 exact ⟨c,hc,hv,hM⟩
theorem aT8 (b:List UInt8) (m:Nat) (hb:b.length = m) (hmax:m <= 100000000):Sx.Fn Γ.P 107 [.slx 1002 0 0 m] [(1002,.mem false 0 [(m,.a8 b)])]
  (fun v M=>v = .a8 (dy b)/\M = [(1002,.mem false 0 [(m,.a8 b)])]):=by
 refine aF (Γ:=Γ) (fn:=Tryz.f107) rfl rfl rfl rfl ?_
 have hP:=aJ2 H32 b 0 m iq hb hmax
 have hS:=aQH (aX H32 b (m / 64)) b (b.drop (64 * (m / 64))) (0 + ofInt (m:Int)) m (64 * (m / 64)) (m - 64 * (m / 64)) (bn iq _ _) hb (by omega) (by rw [List.take_of_length_le (by rw [zlD];omega)]) (by omega)
 repeat refine sd ?_
 refine Call.intro aD8 [(1001,(1001,0,none))] rfl trivial rfl trivial rfl ?_
 rintro _ _ ⟨rfl,rfl⟩
 repeat refine sd ?_
 refine Call.intro hP [(1000,(1001,0,none)),(1002,(1002,0,none)),(1005,(1005,0,none))] rfl fc rfl fc rfl ?_
 rintro v M' ⟨c,hc,rfl,rfl⟩
 repeat refine sd ?_
 have hsl:=mK (aX H32 b (m / 64)) (b.drop (64 * (m / 64))) (0 + ofInt (m:Int))
 refine Call.intro hS [(1000,(1001,0,none)),(1001,(1005,0,none))] rfl fc rfl fc rfl ?_
 rintro _ _ ⟨rfl,rfl⟩
 repeat refine sd ?_
 refine Ret.intro (.a8 (dy b)) [(1002,.mem false 0 [(m,.a8 b)])] [] rfl ?_ ⟨rfl,rfl⟩ rfl ?_ rfl ?_ rfl
 ·exact fc
 ·have hs:dy b = uf (aX H32 b (m / 64)) (b.drop (64 * (m / 64))) (0 + ofInt (m:Int)):=by rw [nO,hb]
  exact fc
 ·exact fc
@[irreducible] def H64:List UInt64:=[ofNat 7640891576956012808,ofNat 13503953896175478587,ofNat 4354685564936845355,ofNat 11912009170470909681,ofNat 5840696475078001361,ofNat 11170449401992604703,ofNat 2270897969802886507,ofNat 6620516959819538809]
theorem aFS:H64 = [ofNat 7640891576956012808,ofNat 13503953896175478587,ofNat 4354685564936845355,ofNat 11912009170470909681,ofNat 5840696475078001361,ofNat 11170449401992604703,ofNat 2270897969802886507,ofNat 6620516959819538809]:=by unfold H64;rfl
theorem qm:H64.length = 8:=by rw [aFS];rfl
def an (h:List UInt64) (b:List UInt8):Nat->List UInt64
 | 0=>h
 | q + 1=>rp (an h b q) ((b.drop (128 * q)).take 128)
theorem ct {h:List UInt64} (hh:h.length = 8) (b:List UInt8):∀ q,(an h b q).length = 8
 | 0=>hh
 | q + 1=>tz (ct hh b q) _
def av (r:Nat):Nat:=(239 - r) % 128
def gv (w:List UInt64):Nat->List UInt8
 | 0=>replicate 64 0
 | i + 1=>(gv w i).set i (aG (w.getD (i / 8) 0) (56 - i % 8 * 8)).toUInt8
def fV (R:List UInt8) (n:UInt64):List UInt8:=pM (pL R (av R.length) ++ replicate 8 0) n 8
theorem qy (R:List UInt8) (n:UInt64):(fV R n).length = R.length + 1 + av R.length + 16:=by
 unfold fV;rw [gO,zlA,gG,length_replicate]
theorem gH (w:List UInt64):∀ i,(gv w i).length = 64
 | 0=>length_replicate
 | i + 1=>by simp only [gv,length_set,gH w i]
@[irreducible] def cG (b:List UInt8):List UInt8:=
 gv (an (an H64 b (b.length / 128)) (fV (b.drop (128 * (b.length / 128))) (ofInt (b.length:Int))) ((fV (b.drop (128 * (b.length / 128))) (ofInt (b.length:Int))).length / 128)) 64
theorem nN (b:List UInt8):cG b =
 gv (an (an H64 b (b.length / 128)) (fV (b.drop (128 * (b.length / 128))) (ofInt (b.length:Int))) ((fV (b.drop (128 * (b.length / 128))) (ofInt (b.length:Int))).length / 128)) 64:=by unfold cG;rfl
theorem gD (b:List UInt8):(cG b).length = 64:=by rw [nN];exact gH _ _
theorem aT6 (b:List UInt8) (m:Nat) (hb:b.length = m) (hmax:m <= 100000000):Sx.Fn Γ.P 114 [.slx 1002 0 0 m] [(1002,.mem false 0 [(m,.a8 b)])]
  (fun v M=>v = .a8 (cG b)/\M = [(1002,.mem false 0 [(m,.a8 b)])]):=by
 have hH:=aFS
 refine aF (Γ:=Γ) (fn:=Tryz.f114) rfl rfl rfl rfl ?_
 obtain ⟨n,hn⟩:∃ x,ofInt (m:Int) = x:=⟨_,rfl⟩
 repeat refine sd ?_
 refine ac.intro (σ:=Nat) (fun q=>q <= m / 128)
  (fun q=>([(0,.slx 1002 0 (128 * q) (m - 128 * q)),(2,.ptr 2 0 none),(3,.ptr 3 0 none),(4,.u64 n)],
   [(1002,.mem false 0 [(m,.a8 b)]),(2,.mem true 0 [(64,.a8 (replicate 64 0))]),(3,.mem true 0 [(8,.a64 (an H64 b q))])])) (fun q=>m / 128 - q) 0 (zero_le _) ?_ ?_
 ·have hn':=hn.symm
  clear hn
  refine Le.intro [] rfl ?_ rfl ?_ rfl
  ·exact fc
  ·have e0:an H64 b 0 = H64:=rfl
   repeat' first|exact trivial|refine zA.app ?_ ?_|refine zA.zd ?_ ?_|refine zA.cons ?_ ?_|exact fc|fail
   all_goals exact hH
 rintro q hq
 have hbl:=ct qm b q
 refine zB.intro (fun hb1=>?_) (fun hb1=>?_)
 ·have hb1:((m - 128 * q:Nat):Int) ≥ 128:=hb1
  repeat refine sd ?_
  have hB:=aQB (an H64 b q) ((b.drop (128 * q)).take 128) hbl (by simp only [zlT,zlD];omega)
  refine Call.intro hB [(1000,(3,0,none)),(1001,(1002,0,some (128 * q)))] rfl fc rfl fc rfl ?_
  rintro _ _ ⟨rfl,rfl⟩
  repeat refine sd ?_
  have e1:128 * q + 128 = 128 * (q + 1):=by omega
  have e2:m - 128 * q - 128 = m - 128 * (q + 1):=by omega
  refine ⟨q + 1,by omega,by omega,Le.intro [] rfl fc rfl fc rfl⟩
 obtain rfl:q = m / 128:=by have hb1:¬ ((m - 128 * q:Nat):Int) ≥ 128:=hb1;omega
 obtain ⟨h,hh⟩:∃ x,an H64 b (m / 128) = x:=⟨_,rfl⟩
 rw [hh] at hbl
 obtain ⟨i,hi⟩:∃ x,128 * (m / 128) = x:=⟨_,rfl⟩
 obtain ⟨r,hr⟩:∃ x,m - i = x:=⟨_,rfl⟩
 obtain ⟨R,hR⟩:∃ x,b.drop i = x:=⟨_,rfl⟩
 have hRl:R.length = r:=by rw [<- hR,zlD];omega
 have hr128:r < 128:=by omega
 have htk:take r (drop i b) = R:=by rw [hR,List.take_of_length_le (by omega)]
 have hsum0:cG b = gv (an h (fV R n) ((fV R n).length / 128)) 64:=by
  rw [nN,hb,hi,hR,hn,hh]
 repeat refine sd ?_
 intro c1 hc1
 repeat refine sd ?_
 intro c2 hc2
 repeat refine sd ?_
 refine ac.intro (σ:=Nat × Nat) (fun s=>s.1 <= av r/\r + 1 + s.1 <= s.2)
  (fun s=>([(2,.ptr 2 0 none),(3,.ptr 3 0 none),(4,.u64 n),(5,.sl 200 0 0 (r + 1 + s.1) s.2)],
   [(1002,.mem false 0 [(m,.a8 b)]),(2,.mem true 0 [(64,.a8 (replicate 64 0))]),(3,.mem true 0 [(8,.a64 h)]),(200,.mem true (s.2 - (r + 1 + s.1)) [(r + 1 + s.1,.a8 (pL R s.1))])])) (fun s=>av r - s.1) (0,c2) ⟨zero_le _,by have:(Ix.lit 0).val + (m - 128 * (m / 128)) + 1 <= c2:=hc2;show r + 1 + 0 <= c2;have e:(Ix.lit 0).val = 0:=rfl;omega⟩ ?_ ?_
 ·refine Le.intro [(200,(25,0,none))] rfl ?_ rfl ?_ rfl
  ·exact fc
  ·have hh':=hh.symm
   clear hh hR
   repeat' first|exact trivial|refine zA.app ?_ ?_|refine zA.zd ?_ ?_|refine zA.cons ?_ ?_|exact fc|fail
   all_goals (show pL R 0 = [] ++ take (m - 128 * (m / 128)) (drop (128 * (m / 128)) b) ++ [128];rw [hi,hr,htk];simp [pL])
 rintro ⟨j,c⟩ ⟨hj,hc⟩
 have hj:j <= av r:=hj
 have hc:r + 1 + j <= c:=hc
 have hpl:=gG R j
 rw [hRl] at hpl
 have hz:av r = (239 - r) % 128:=rfl
 repeat refine sd ?_
 refine zB.intro (fun hb1=>?_) (fun hb1=>?_)
 ·have hb1:¬ ((r + 1 + j:Nat):Int) % 128 = 112:=hb1
  have hlt:j < av r:=by omega
  repeat refine sd ?_
  intro c' hc'
  repeat refine sd ?_
  have hp1:=nd R j
  refine ⟨(j + 1,c'),⟨hlt,by show r + 1 + (j + 1) <= c';have:r + 1 + j + 1 <= c':=hc';omega⟩,by show av r - (j + 1) < av r - j;omega,Le.intro [(200,(32,0,none))] rfl fc rfl fc rfl⟩
 ·have hb1:¬ ¬ ((r + 1 + j:Nat):Int) % 128 = 112:=hb1
  obtain rfl:j = av r:=by omega
  obtain ⟨T0,hT0⟩:∃ x,pL R (av r) = x:=⟨_,rfl⟩
  rw [hT0] at hpl
  obtain ⟨L0,hL0⟩:∃ x,r + 1 + av r = x:=⟨_,rfl⟩
  rw [hL0] at hpl hc
  have hL1:L0 = 112 \/ L0 = 240:=by omega
  have hT0':T0 ++ replicate 8 0 = pL R (av r) ++ replicate 8 0:=by rw [hT0]
  have htail:fV R n = pM (T0 ++ replicate 8 0) n 8:=by unfold fV;rw [hRl,hT0]
  obtain ⟨T1,hT1⟩:∃ x,T0 ++ replicate 8 0 = x:=⟨_,rfl⟩
  rw [hT1] at htail hT0'
  have hT1l:T1.length = L0 + 8:=by rw [<- hT1,zlA,hpl,length_replicate]
  clear hT0 hT1
  repeat refine sd ?_
  intro c3 hc3
  repeat refine sd ?_
  refine ac.intro (σ:=Nat × Nat) (fun s=>s.1 <= 8/\L0 + 8 + s.1 <= s.2)
   (fun s=>([(2,.ptr 2 0 none),(3,.ptr 3 0 none),(4,.u64 n),(5,.sl 200 0 0 (L0 + 8 + s.1) s.2),(6,.i .i64 (7 - (s.1:Int)))],
    [(1002,.mem false 0 [(m,.a8 b)]),(2,.mem true 0 [(64,.a8 (replicate 64 0))]),(3,.mem true 0 [(8,.a64 h)]),(200,.mem true (s.2 - (L0 + 8 + s.1)) [(L0 + 8 + s.1,.a8 (pM T1 n s.1))])])) (fun s=>8 - s.1) (0,c3) ⟨zero_le _,by have:r + 1 + av r + Int.toNat 8 <= c3:=hc3;show L0 + 8 + 0 <= c3;have e:Int.toNat 8 = 8:=rfl;omega⟩ ?_ ?_
  ·have hL0':=hL0.symm
   clear hL0
   refine Le.intro [(200,(34,0,none))] rfl ?_ rfl ?_ rfl
   ·exact fc
   ·have e0:pM T1 n 0 = T1:=rfl
    repeat' first|exact trivial|refine zA.app ?_ ?_|refine zA.zd ?_ ?_|refine zA.cons ?_ ?_|exact fc|fail
    all_goals exact hT0'
  rintro ⟨k,c⟩ ⟨hk,hc⟩
  have hk:k <= 8:=hk
  have hc:L0 + 8 + k <= c:=hc
  have hll:=gO T1 n k
  rw [hT1l] at hll
  refine zB.intro (fun hb2=>?_) (fun hb2=>?_)
  ·have hb2:(7 - (k:Int)) ≥ 0:=hb2
   repeat refine sd ?_
   intro c' hc'
   repeat refine sd ?_
   have e7:(8 * (7 - (k:Int))).toNat = 8 * (7 - k):=by omega
   refine ⟨(k + 1,c'),⟨by show k + 1 <= 8;omega,by show L0 + 8 + (k + 1) <= c';have:L0 + 8 + k + 1 <= c':=hc';omega⟩,by show 8 - (k + 1) < 8 - k;omega,Le.intro [(200,(47,0,none))] rfl ?_ rfl ?_ rfl⟩
   ·exact fc
   ·repeat' first|exact trivial|refine zA.app ?_ ?_|refine zA.zd ?_ ?_|refine zA.cons ?_ ?_|exact fc|fail
    show pM T1 n (k + 1) = pM T1 n k ++ [(aG (aV n 3) (8 * (7 - (k:Int))).toNat).toUInt8]
    rw [e7]
    rfl
  ·obtain rfl:k = 8:=by have hb2:¬ (7 - (k:Int)) ≥ 0:=hb2;omega
   obtain ⟨T,hT⟩:∃ x,pM T1 n 8 = x:=⟨_,rfl⟩
   obtain ⟨L,hL⟩:∃ x,L0 + 8 + 8 = x:=⟨_,rfl⟩
   rw [hT,hL] at hll
   rw [hL] at hc
   rw [hT] at htail
   have hT':=hT.symm
   have hsum:cG b = gv (an h T (L / 128)) 64:=by rw [hsum0,htail,hll]
   clear hsum0
   refine ac.intro (σ:=Nat) (fun q=>q <= L / 128)
    (fun q=>([(2,.ptr 2 0 none),(3,.ptr 3 0 none),(5,.sl 200 0 (128 * q) (L - 128 * q) (c - 128 * q))],
     [(1002,.mem false 0 [(m,.a8 b)]),(2,.mem true 0 [(64,.a8 (replicate 64 0))]),(3,.mem true 0 [(8,.a64 (an h T q))]),(200,.mem true (c - L) [(L,.a8 T)])])) (fun q=>L / 128 - q) 0 (zero_le _) ?_ ?_
   ·clear hT
    refine Le.intro [] rfl ?_ rfl ?_ rfl
    ·exact fc
    ·have e0:an h T 0 = h:=rfl
     repeat' first|exact trivial|refine zA.app ?_ ?_|refine zA.zd ?_ ?_|refine zA.cons ?_ ?_|exact fc|fail
     all_goals exact hT'
   clear hT'
   rintro q hq
   have hbl2:=ct hbl T q
   refine zB.intro (fun hb3=>?_) (fun hb3=>?_)
   ·have hb3:((L - 128 * q:Nat):Int) > 0:=hb3
    have hq64:128 * q + 128 <= L:=by omega
    repeat refine sd ?_
    have hB:=aQB (an h T q) ((T.drop (128 * q)).take 128) hbl2 (by simp only [zlT,zlD];omega)
    refine Call.intro hB [(1000,(3,0,none)),(1001,(200,0,some (128 * q)))] rfl fc rfl fc rfl ?_
    rintro _ _ ⟨rfl,rfl⟩
    repeat refine sd ?_
    have e1:128 * q + 128 = 128 * (q + 1):=by omega
    have e2:L - 128 * q - 128 = L - 128 * (q + 1):=by omega
    have e3:c - 128 * q - 128 = c - 128 * (q + 1):=by omega
    refine ⟨q + 1,by omega,by omega,Le.intro [] rfl fc rfl fc rfl⟩
   ·obtain rfl:q = L / 128:=by have hb3:¬ ((L - 128 * q:Nat):Int) > 0:=hb3;omega
    obtain ⟨W,hW⟩:∃ x,an h T (L / 128) = x:=⟨_,rfl⟩
    rw [hW] at hbl2 hsum
    have hW':=hW.symm
    repeat refine sd ?_
    refine ac.intro (σ:=Nat) (fun j=>j <= 64)
     (fun j=>([(2,.ptr 2 0 none),(3,.ptr 3 0 none),(7,.ptr 7 0 none),(56,.i .i64 j)],
      [(1002,.mem false 0 [(m,.a8 b)]),(2,.mem true 0 [(64,.a8 (replicate 64 0))]),(3,.mem true 0 [(8,.a64 W)]),(7,.mem true 0 [(64,.a8 (gv W j))])])) (fun j=>64 - j) 0 (zero_le _) ?_ ?_
    ·clear hW
     refine Le.intro [] rfl fc rfl fc rfl
    clear hW'
    rintro j hj
    have hol:=gH W j
    refine zB.intro (fun hb4=>?_) (fun hb4=>?_)
    ·have hb4:(j:Int) < 64:=hb4
     have ed:((j:Int) / 8).toNat = j / 8:=by omega
     have es:(56 - (j:Int) % 8 * 8).toNat = 56 - j % 8 * 8:=by omega
     repeat refine sd ?_
     refine ⟨j + 1,by omega,by omega,Le.intro [] rfl fc rfl ?_ rfl⟩
     repeat' first|exact trivial|refine zA.app ?_ ?_|refine zA.zd ?_ ?_|refine zA.cons ?_ ?_|exact fc|fail
     all_goals simp only [ed,es,zero_add,zQ,Ix.val,zIn,gv]
    ·obtain rfl:j = 64:=by have hb4:¬ (j:Int) < 64:=hb4;omega
     repeat refine sd ?_
     rw [hsum]
     refine Ret.intro (.a8 (gv W 64)) [(1002,.mem false 0 [(m,.a8 b)])] [] rfl fc ⟨rfl,rfl⟩ rfl fc rfl fc rfl
@[irreducible] def F64:List UInt64:=[ofNat 7640891576956012808,ofNat 13503953896175478587,ofNat 4354685564936845355,ofNat 11912009170470909681,ofNat 5840696475078001361,ofNat 11170449401992604703,ofNat 2270897969802886507,ofNat 6620516959819538809]
theorem aFT:F64 = [ofNat 7640891576956012808,ofNat 13503953896175478587,ofNat 4354685564936845355,ofNat 11912009170470909681,ofNat 5840696475078001361,ofNat 11170449401992604703,ofNat 2270897969802886507,ofNat 6620516959819538809]:=by unfold F64;rfl
theorem aAR:F64.length = 8:=by rw [aFT];rfl
@[irreducible] def R64:List UInt64:=kq1
theorem aFQ:R64 = kq1:=by unfold R64;rfl
theorem aAN:R64.length = 80:=by rw [aFQ];rfl
@[irreducible] def S64:List UInt64:=[ofNat 28,ofNat 34,ofNat 39,ofNat 14,ofNat 18,ofNat 41,ofNat 1,ofNat 8,ofNat 7,ofNat 19,ofNat 61,ofNat 6]
theorem aFP:S64 = [ofNat 28,ofNat 34,ofNat 39,ofNat 14,ofNat 18,ofNat 41,ofNat 1,ofNat 8,ofNat 7,ofNat 19,ofNat 61,ofNat 6]:=by unfold S64;rfl
theorem aAM:S64.length = 12:=by rw [aFP];rfl
def tn (x n sz:UInt64):UInt64:=
 if sz = 32 then (aG x n.toNat ||| aV x (32 - n).toNat) &&& ofNat 4294967295 else aG x n.toNat ||| aV x (64 - n).toNat
def thS (x a b c sz:UInt64):UInt64:=tn x a sz ^^^ tn x b sz ^^^ aG x c.toNat
def thT (x a b c sz:UInt64):UInt64:=tn x a sz ^^^ tn x b sz ^^^ tn x c sz
theorem aD3 (x n sz:UInt64):Sx.Fn Γ.P 184 [.u64 x,.u64 n,.u64 sz] [] (fun v _=>v = .u64 (tn x n sz)):=by
 refine aF (Γ:=Γ) (fn:=Tryz.f184) rfl rfl rfl rfl ?_
 refine zB.intro (fun h=>?_) (fun h=>?_)
 ·refine Ret.intro (.u64 (tn x n sz)) [] [] rfl trivial rfl rfl ?_ rfl trivial rfl
  exact if_pos h
 ·refine Ret.intro (.u64 (tn x n sz)) [] [] rfl trivial rfl rfl ?_ rfl trivial rfl
  exact if_neg h
theorem aPZ (x a b c sz:UInt64):Sx.Fn Γ.P 177 [.u64 x,.u64 a,.u64 b,.u64 c,.u64 sz,.tt] [] (fun v _=>v = .u64 (thS x a b c sz)):=by
 refine aF (Γ:=Γ) (fn:=Tryz.f177) rfl rfl rfl rfl ?_
 refine Call.pure (aD3 x a sz) rfl fc ?_
 rintro _ rfl
 refine Call.pure (aD3 x b sz) rfl fc ?_
 rintro _ rfl
 exact Ret.intro (.u64 (thS x a b c sz)) [] [] rfl trivial rfl rfl rfl rfl trivial rfl
theorem aPY (x a b c sz:UInt64):Sx.Fn Γ.P 177 [.u64 x,.u64 a,.u64 b,.u64 c,.u64 sz,.ff] [] (fun v _=>v = .u64 (thT x a b c sz)):=by
 refine aF (Γ:=Γ) (fn:=Tryz.f177) rfl rfl rfl rfl ?_
 refine Call.pure (aD3 x a sz) rfl fc ?_
 rintro _ rfl
 refine Call.pure (aD3 x b sz) rfl fc ?_
 rintro _ rfl
 refine Call.pure (aD3 x c sz) rfl fc ?_
 rintro _ rfl
 exact Ret.intro (.u64 (thT x a b c sz)) [] [] rfl trivial rfl rfl rfl rfl trivial rfl
theorem aTU:Sx.Fn Γ.P 173 [] [] (fun v M=>v = .sl 1001 0 0 8 8/\M = [(1001,.mem true 0 [(8,.a64 F64)])]):=by
 have hH:=aFT
 refine aF (Γ:=Γ) (fn:=Tryz.f173) rfl rfl rfl rfl ?_
 repeat refine sd ?_
 refine Ret.intro (.sl 1001 0 0 8 8) [(1001,.mem true 0 [(8,.a64 F64)])] [(1001,(1,0,none))] rfl trivial ⟨rfl,rfl⟩ rfl ?_ rfl ?_ rfl
 ·exact fc
 ·exact ⟨rfl,rfl,hH⟩
theorem aTT:Sx.Fn Γ.P 174 [] [] (fun v M=>v = .sl 1001 0 0 80 80/\M = [(1001,.mem true 0 [(80,.a64 R64)])]):=by
 have hH:=aFQ
 refine aF (Γ:=Γ) (fn:=Tryz.f174) rfl rfl rfl rfl ?_
 repeat refine sd ?_
 refine Ret.intro (.sl 1001 0 0 80 80) [(1001,.mem true 0 [(80,.a64 R64)])] [(1001,(1,0,none))] rfl trivial ⟨rfl,rfl⟩ rfl ?_ rfl ?_ rfl
 ·exact fc
 ·exact ⟨rfl,rfl,hH⟩
end Go.Proofs.YtimbdhpchlakfaaGreat
