/- What the functions of the program compute. No condition. -/
import Derived.Test.YtlbmkjckbfeejaaHwSha6ToSha8
set_option linter.unusedSimpArgs false
set_option linter.unusedVariables false
namespace Go.Proofs.Ytlbmkjckbfeejaa
open Go Go.Sx
@[irreducible] def F32:List UInt64:=[UInt64.ofNat 1779033703,UInt64.ofNat 3144134277,UInt64.ofNat 1013904242,UInt64.ofNat 2773480762,UInt64.ofNat 1359893119,UInt64.ofNat 2600822924,UInt64.ofNat 528734635,UInt64.ofNat 1541459225]
theorem F32_eq:F32 = [UInt64.ofNat 1779033703,UInt64.ofNat 3144134277,UInt64.ofNat 1013904242,UInt64.ofNat 2773480762,UInt64.ofNat 1359893119,UInt64.ofNat 2600822924,UInt64.ofNat 528734635,UInt64.ofNat 1541459225]:=by unfold F32;rfl
theorem F32_length:F32.length = 8:=by rw [F32_eq];rfl
@[irreducible] def R32:List UInt64:=[UInt64.ofNat 1116352408,UInt64.ofNat 1899447441,UInt64.ofNat 3049323471,UInt64.ofNat 3921009573,UInt64.ofNat 961987163,UInt64.ofNat 1508970993,UInt64.ofNat 2453635748,UInt64.ofNat 2870763221,UInt64.ofNat 3624381080,UInt64.ofNat 310598401,UInt64.ofNat 607225278,UInt64.ofNat 1426881987,UInt64.ofNat 1925078388,UInt64.ofNat 2162078206,UInt64.ofNat 2614888103,UInt64.ofNat 3248222580,UInt64.ofNat 3835390401,UInt64.ofNat 4022224774,UInt64.ofNat 264347078,UInt64.ofNat 604807628,UInt64.ofNat 770255983,UInt64.ofNat 1249150122,UInt64.ofNat 1555081692,UInt64.ofNat 1996064986,UInt64.ofNat 2554220882,UInt64.ofNat 2821834349,UInt64.ofNat 2952996808,UInt64.ofNat 3210313671,UInt64.ofNat 3336571891,UInt64.ofNat 3584528711,UInt64.ofNat 113926993,UInt64.ofNat 338241895,UInt64.ofNat 666307205,UInt64.ofNat 773529912,UInt64.ofNat 1294757372,UInt64.ofNat 1396182291,UInt64.ofNat 1695183700,UInt64.ofNat 1986661051,UInt64.ofNat 2177026350,UInt64.ofNat 2456956037,UInt64.ofNat 2730485921,UInt64.ofNat 2820302411,UInt64.ofNat 3259730800,UInt64.ofNat 3345764771,UInt64.ofNat 3516065817,UInt64.ofNat 3600352804,UInt64.ofNat 4094571909,UInt64.ofNat 275423344,UInt64.ofNat 430227734,UInt64.ofNat 506948616,UInt64.ofNat 659060556,UInt64.ofNat 883997877,UInt64.ofNat 958139571,UInt64.ofNat 1322822218,UInt64.ofNat 1537002063,UInt64.ofNat 1747873779,UInt64.ofNat 1955562222,UInt64.ofNat 2024104815,UInt64.ofNat 2227730452,UInt64.ofNat 2361852424,UInt64.ofNat 2428436474,UInt64.ofNat 2756734187,UInt64.ofNat 3204031479,UInt64.ofNat 3329325298]
theorem R32_eq:R32 = [UInt64.ofNat 1116352408,UInt64.ofNat 1899447441,UInt64.ofNat 3049323471,UInt64.ofNat 3921009573,UInt64.ofNat 961987163,UInt64.ofNat 1508970993,UInt64.ofNat 2453635748,UInt64.ofNat 2870763221,UInt64.ofNat 3624381080,UInt64.ofNat 310598401,UInt64.ofNat 607225278,UInt64.ofNat 1426881987,UInt64.ofNat 1925078388,UInt64.ofNat 2162078206,UInt64.ofNat 2614888103,UInt64.ofNat 3248222580,UInt64.ofNat 3835390401,UInt64.ofNat 4022224774,UInt64.ofNat 264347078,UInt64.ofNat 604807628,UInt64.ofNat 770255983,UInt64.ofNat 1249150122,UInt64.ofNat 1555081692,UInt64.ofNat 1996064986,UInt64.ofNat 2554220882,UInt64.ofNat 2821834349,UInt64.ofNat 2952996808,UInt64.ofNat 3210313671,UInt64.ofNat 3336571891,UInt64.ofNat 3584528711,UInt64.ofNat 113926993,UInt64.ofNat 338241895,UInt64.ofNat 666307205,UInt64.ofNat 773529912,UInt64.ofNat 1294757372,UInt64.ofNat 1396182291,UInt64.ofNat 1695183700,UInt64.ofNat 1986661051,UInt64.ofNat 2177026350,UInt64.ofNat 2456956037,UInt64.ofNat 2730485921,UInt64.ofNat 2820302411,UInt64.ofNat 3259730800,UInt64.ofNat 3345764771,UInt64.ofNat 3516065817,UInt64.ofNat 3600352804,UInt64.ofNat 4094571909,UInt64.ofNat 275423344,UInt64.ofNat 430227734,UInt64.ofNat 506948616,UInt64.ofNat 659060556,UInt64.ofNat 883997877,UInt64.ofNat 958139571,UInt64.ofNat 1322822218,UInt64.ofNat 1537002063,UInt64.ofNat 1747873779,UInt64.ofNat 1955562222,UInt64.ofNat 2024104815,UInt64.ofNat 2227730452,UInt64.ofNat 2361852424,UInt64.ofNat 2428436474,UInt64.ofNat 2756734187,UInt64.ofNat 3204031479,UInt64.ofNat 3329325298]:=by unfold R32;rfl
theorem R32_length:R32.length = 64:=by rw [R32_eq];rfl
@[irreducible] def F64:List UInt64:=[UInt64.ofNat 7640891576956012808,UInt64.ofNat 13503953896175478587,UInt64.ofNat 4354685564936845355,UInt64.ofNat 11912009170470909681,UInt64.ofNat 5840696475078001361,UInt64.ofNat 11170449401992604703,UInt64.ofNat 2270897969802886507,UInt64.ofNat 6620516959819538809]
theorem F64_eq:F64 = [UInt64.ofNat 7640891576956012808,UInt64.ofNat 13503953896175478587,UInt64.ofNat 4354685564936845355,UInt64.ofNat 11912009170470909681,UInt64.ofNat 5840696475078001361,UInt64.ofNat 11170449401992604703,UInt64.ofNat 2270897969802886507,UInt64.ofNat 6620516959819538809]:=by unfold F64;rfl
@[irreducible] def R64:List UInt64:=[UInt64.ofNat 4794697086780616226,UInt64.ofNat 8158064640168781261,UInt64.ofNat 13096744586834688815,UInt64.ofNat 16840607885511220156,UInt64.ofNat 4131703408338449720,UInt64.ofNat 6480981068601479193,UInt64.ofNat 10538285296894168987,UInt64.ofNat 12329834152419229976,UInt64.ofNat 15566598209576043074,UInt64.ofNat 1334009975649890238,UInt64.ofNat 2608012711638119052,UInt64.ofNat 6128411473006802146,UInt64.ofNat 8268148722764581231,UInt64.ofNat 9286055187155687089,UInt64.ofNat 11230858885718282805,UInt64.ofNat 13951009754708518548,UInt64.ofNat 16472876342353939154,UInt64.ofNat 17275323862435702243,UInt64.ofNat 1135362057144423861,UInt64.ofNat 2597628984639134821,UInt64.ofNat 3308224258029322869,UInt64.ofNat 5365058923640841347,UInt64.ofNat 6679025012923562964,UInt64.ofNat 8573033837759648693,UInt64.ofNat 10970295158949994411,UInt64.ofNat 12119686244451234320,UInt64.ofNat 12683024718118986047,UInt64.ofNat 13788192230050041572,UInt64.ofNat 14330467153632333762,UInt64.ofNat 15395433587784984357,UInt64.ofNat 489312712824947311,UInt64.ofNat 1452737877330783856,UInt64.ofNat 2861767655752347644,UInt64.ofNat 3322285676063803686,UInt64.ofNat 5560940570517711597,UInt64.ofNat 5996557281743188959,UInt64.ofNat 7280758554555802590,UInt64.ofNat 8532644243296465576,UInt64.ofNat 9350256976987008742,UInt64.ofNat 10552545826968843579,UInt64.ofNat 11727347734174303076,UInt64.ofNat 12113106623233404929,UInt64.ofNat 14000437183269869457,UInt64.ofNat 14369950271660146224,UInt64.ofNat 15101387698204529176,UInt64.ofNat 15463397548674623760,UInt64.ofNat 17586052441742319658,UInt64.ofNat 1182934255886127544,UInt64.ofNat 1847814050463011016,UInt64.ofNat 2177327727835720531,UInt64.ofNat 2830643537854262169,UInt64.ofNat 3796741975233480872,UInt64.ofNat 4115178125766777443,UInt64.ofNat 5681478168544905931,UInt64.ofNat 6601373596472566643,UInt64.ofNat 7507060721942968483,UInt64.ofNat 8399075790359081724,UInt64.ofNat 8693463985226723168,UInt64.ofNat 9568029438360202098,UInt64.ofNat 10144078919501101548,UInt64.ofNat 10430055236837252648,UInt64.ofNat 11840083180663258601,UInt64.ofNat 13761210420658862357,UInt64.ofNat 14299343276471374635,UInt64.ofNat 14566680578165727644,UInt64.ofNat 15097957966210449927,UInt64.ofNat 16922976911328602910,UInt64.ofNat 17689382322260857208,UInt64.ofNat 500013540394364858,UInt64.ofNat 748580250866718886,UInt64.ofNat 1242879168328830382,UInt64.ofNat 1977374033974150939,UInt64.ofNat 2944078676154940804,UInt64.ofNat 3659926193048069267,UInt64.ofNat 4368137639120453308,UInt64.ofNat 4836135668995329356,UInt64.ofNat 5532061633213252278,UInt64.ofNat 6448918945643986474,UInt64.ofNat 6902733635092675308,UInt64.ofNat 7801388544844847127]
theorem R64_eq:R64 = [UInt64.ofNat 4794697086780616226,UInt64.ofNat 8158064640168781261,UInt64.ofNat 13096744586834688815,UInt64.ofNat 16840607885511220156,UInt64.ofNat 4131703408338449720,UInt64.ofNat 6480981068601479193,UInt64.ofNat 10538285296894168987,UInt64.ofNat 12329834152419229976,UInt64.ofNat 15566598209576043074,UInt64.ofNat 1334009975649890238,UInt64.ofNat 2608012711638119052,UInt64.ofNat 6128411473006802146,UInt64.ofNat 8268148722764581231,UInt64.ofNat 9286055187155687089,UInt64.ofNat 11230858885718282805,UInt64.ofNat 13951009754708518548,UInt64.ofNat 16472876342353939154,UInt64.ofNat 17275323862435702243,UInt64.ofNat 1135362057144423861,UInt64.ofNat 2597628984639134821,UInt64.ofNat 3308224258029322869,UInt64.ofNat 5365058923640841347,UInt64.ofNat 6679025012923562964,UInt64.ofNat 8573033837759648693,UInt64.ofNat 10970295158949994411,UInt64.ofNat 12119686244451234320,UInt64.ofNat 12683024718118986047,UInt64.ofNat 13788192230050041572,UInt64.ofNat 14330467153632333762,UInt64.ofNat 15395433587784984357,UInt64.ofNat 489312712824947311,UInt64.ofNat 1452737877330783856,UInt64.ofNat 2861767655752347644,UInt64.ofNat 3322285676063803686,UInt64.ofNat 5560940570517711597,UInt64.ofNat 5996557281743188959,UInt64.ofNat 7280758554555802590,UInt64.ofNat 8532644243296465576,UInt64.ofNat 9350256976987008742,UInt64.ofNat 10552545826968843579,UInt64.ofNat 11727347734174303076,UInt64.ofNat 12113106623233404929,UInt64.ofNat 14000437183269869457,UInt64.ofNat 14369950271660146224,UInt64.ofNat 15101387698204529176,UInt64.ofNat 15463397548674623760,UInt64.ofNat 17586052441742319658,UInt64.ofNat 1182934255886127544,UInt64.ofNat 1847814050463011016,UInt64.ofNat 2177327727835720531,UInt64.ofNat 2830643537854262169,UInt64.ofNat 3796741975233480872,UInt64.ofNat 4115178125766777443,UInt64.ofNat 5681478168544905931,UInt64.ofNat 6601373596472566643,UInt64.ofNat 7507060721942968483,UInt64.ofNat 8399075790359081724,UInt64.ofNat 8693463985226723168,UInt64.ofNat 9568029438360202098,UInt64.ofNat 10144078919501101548,UInt64.ofNat 10430055236837252648,UInt64.ofNat 11840083180663258601,UInt64.ofNat 13761210420658862357,UInt64.ofNat 14299343276471374635,UInt64.ofNat 14566680578165727644,UInt64.ofNat 15097957966210449927,UInt64.ofNat 16922976911328602910,UInt64.ofNat 17689382322260857208,UInt64.ofNat 500013540394364858,UInt64.ofNat 748580250866718886,UInt64.ofNat 1242879168328830382,UInt64.ofNat 1977374033974150939,UInt64.ofNat 2944078676154940804,UInt64.ofNat 3659926193048069267,UInt64.ofNat 4368137639120453308,UInt64.ofNat 4836135668995329356,UInt64.ofNat 5532061633213252278,UInt64.ofNat 6448918945643986474,UInt64.ofNat 6902733635092675308,UInt64.ofNat 7801388544844847127]:=by unfold R64;rfl
@[irreducible] def S32:List UInt64:=[UInt64.ofNat 2,UInt64.ofNat 13,UInt64.ofNat 22,UInt64.ofNat 6,UInt64.ofNat 11,UInt64.ofNat 25,UInt64.ofNat 7,UInt64.ofNat 18,UInt64.ofNat 3,UInt64.ofNat 17,UInt64.ofNat 19,UInt64.ofNat 10]
theorem S32_eq:S32 = [UInt64.ofNat 2,UInt64.ofNat 13,UInt64.ofNat 22,UInt64.ofNat 6,UInt64.ofNat 11,UInt64.ofNat 25,UInt64.ofNat 7,UInt64.ofNat 18,UInt64.ofNat 3,UInt64.ofNat 17,UInt64.ofNat 19,UInt64.ofNat 10]:=by unfold S32;rfl
theorem S32_length:S32.length = 12:=by rw [S32_eq];rfl
def tn (x n sz:UInt64):UInt64:=
 if sz = 32 then (shr64 x n.toNat ||| shl64 x (32 - n).toNat) &&& UInt64.ofNat 4294967295 else shr64 x n.toNat ||| shl64 x (64 - n).toNat
def thS (x a b c sz:UInt64):UInt64:=tn x a sz ^^^ tn x b sz ^^^ shr64 x c.toNat
def thT (x a b c sz:UInt64):UInt64:=tn x a sz ^^^ tn x b sz ^^^ tn x c sz
set_option maxRecDepth 100000 in
theorem fn75 (x n sz:UInt64):Sx.Fn Γ.P 75 [.u64 x,.u64 n,.u64 sz] [] (fun v _=>v = .u64 (tn x n sz)):=by
 refine fn_of (Γ:=Γ) (fn:=Try.f75) rfl rfl rfl rfl ?_
 refine Branch.intro (fun h=>?_) (fun h=>?_)
 ·refine Ret.intro (.u64 (tn x n sz)) [] [] rfl trivial rfl rfl ?_ rfl trivial rfl
  exact if_pos h
 ·refine Ret.intro (.u64 (tn x n sz)) [] [] rfl trivial rfl rfl ?_ rfl trivial rfl
  exact if_neg h
set_option maxRecDepth 100000 in
theorem fnThS (x a b c sz:UInt64):Sx.Fn Γ.P 74 [.u64 x,.u64 a,.u64 b,.u64 c,.u64 sz,.tt] [] (fun v _=>v = .u64 (thS x a b c sz)):=by
 refine fn_of (Γ:=Γ) (fn:=Try.f74) rfl rfl rfl rfl ?_
 refine Call.pure (fn75 x a sz) rfl fc ?_
 intro v hv
 subst hv
 refine Call.pure (fn75 x b sz) rfl fc ?_
 intro v hv
 subst hv
 exact Ret.intro (.u64 (thS x a b c sz)) [] [] rfl trivial rfl rfl rfl rfl trivial rfl
set_option maxRecDepth 100000 in
theorem fnThT (x a b c sz:UInt64):Sx.Fn Γ.P 74 [.u64 x,.u64 a,.u64 b,.u64 c,.u64 sz,.ff] [] (fun v _=>v = .u64 (thT x a b c sz)):=by
 refine fn_of (Γ:=Γ) (fn:=Try.f74) rfl rfl rfl rfl ?_
 refine Call.pure (fn75 x a sz) rfl fc ?_
 intro v hv
 subst hv
 refine Call.pure (fn75 x b sz) rfl fc ?_
 intro v hv
 subst hv
 refine Call.pure (fn75 x c sz) rfl fc ?_
 intro v hv
 subst hv
 exact Ret.intro (.u64 (thT x a b c sz)) [] [] rfl trivial rfl rfl rfl rfl trivial rfl
set_option maxRecDepth 100000 in
theorem fn72:Sx.Fn Γ.P 72 [] [] (fun v M=>v = .sl 1001 0 0 8 8∧M = [(1001,.mem true 0 [(8,.a64 F32)])]):=by
 have hH:=F32_eq
 refine fn_of (Γ:=Γ) (fn:=Try.f72) rfl rfl rfl rfl ?_
 repeat (refine sd ?_)
 refine Ret.intro (.sl 1001 0 0 8 8) [(1001,.mem true 0 [(8,.a64 F32)])] [(1001,(1,0,none))] rfl trivial ⟨rfl,rfl⟩ rfl ?_ rfl ?_ rfl
 ·exact fc
 ·exact ⟨rfl,rfl,hH⟩
set_option maxRecDepth 100000 in
theorem fn73:Sx.Fn Γ.P 73 [] [] (fun v M=>v = .sl 1001 0 0 64 64∧M = [(1001,.mem true 0 [(64,.a64 R32)])]):=by
 have hH:=R32_eq
 refine fn_of (Γ:=Γ) (fn:=Try.f73) rfl rfl rfl rfl ?_
 repeat (refine sd ?_)
 refine Ret.intro (.sl 1001 0 0 64 64) [(1001,.mem true 0 [(64,.a64 R32)])] [(1001,(1,0,none))] rfl trivial ⟨rfl,rfl⟩ rfl ?_ rfl ?_ rfl
 ·exact fc
 ·exact ⟨rfl,rfl,hH⟩
set_option maxRecDepth 100000 in
theorem fn70:Sx.Fn Γ.P 70 [] [] (fun v M=>v = .sl 1001 0 0 8 8∧M = [(1001,.mem true 0 [(8,.a64 F64)])]):=by
 have hH:=F64_eq
 refine fn_of (Γ:=Γ) (fn:=Try.f70) rfl rfl rfl rfl ?_
 repeat (refine sd ?_)
 refine Ret.intro (.sl 1001 0 0 8 8) [(1001,.mem true 0 [(8,.a64 F64)])] [(1001,(1,0,none))] rfl trivial ⟨rfl,rfl⟩ rfl ?_ rfl ?_ rfl
 ·exact fc
 ·exact ⟨rfl,rfl,hH⟩
set_option maxRecDepth 100000 in
theorem fn71:Sx.Fn Γ.P 71 [] [] (fun v M=>v = .sl 1001 0 0 80 80∧M = [(1001,.mem true 0 [(80,.a64 R64)])]):=by
 have hH:=R64_eq
 refine fn_of (Γ:=Γ) (fn:=Try.f71) rfl rfl rfl rfl ?_
 repeat (refine sd ?_)
 refine Ret.intro (.sl 1001 0 0 80 80) [(1001,.mem true 0 [(80,.a64 R64)])] [(1001,(1,0,none))] rfl trivial ⟨rfl,rfl⟩ rfl ?_ rfl ?_ rfl
 ·exact fc
 ·exact ⟨rfl,rfl,hH⟩
end Go.Proofs.Ytlbmkjckbfeejaa
namespace Go.Proofs.Ytlbmkjckbfeejaa
open Go Go.Sx
structure Cf where
 sz:UInt64
 mask:UInt64
 s:List UInt64
 k:List UInt64
 n:Nat
 wd:Nat
def wR (c:Cf) (all:List UInt8) (at_:Nat) (w:List UInt64) (i:Nat):Nat→List UInt64
 | 0=>w
 | j + 1=>(wR c all at_ w i j).set i ((wR c all at_ w i j).getD i 0 * 256 + (all.getD (at_ + c.wd * i + j) 0).toUInt64)
def wN (c:Cf) (w:List UInt64) (i:Nat):UInt64:=
 (w.getD (i - 16) 0 + thS (w.getD (i - 15) 0) (c.s.getD 6 0) (c.s.getD 7 0) (c.s.getD 8 0) c.sz + w.getD (i - 7) 0 + thS (w.getD (i - 2) 0) (c.s.getD 9 0) (c.s.getD 10 0) (c.s.getD 11 0) c.sz) &&& c.mask
def wRs (c:Cf) (all:List UInt8) (at_:Nat):Nat→List UInt64
 | 0=>List.replicate c.n 0
 | i + 1=>if 16 ≤ i then (wRs c all at_ i).set i (wN c (wRs c all at_ i) i) else wR c all at_ (wRs c all at_ i) i c.wd
def oneR (c:Cf) (v:List UInt64) (k w:UInt64):UInt64:=
 v.getD 7 0 + thT (v.getD 4 0) (c.s.getD 3 0) (c.s.getD 4 0) (c.s.getD 5 0) c.sz + (v.getD 4 0 &&& v.getD 5 0 ^^^ (c.mask ^^^ v.getD 4 0) &&& v.getD 6 0) + k + w
def twoR (c:Cf) (v:List UInt64):UInt64:=
 thT (v.getD 0 0) (c.s.getD 0 0) (c.s.getD 1 0) (c.s.getD 2 0) c.sz + (v.getD 0 0 &&& v.getD 1 0 ^^^ v.getD 0 0 &&& v.getD 2 0 ^^^ v.getD 1 0 &&& v.getD 2 0)
def rdR (c:Cf) (v:List UInt64) (k w:UInt64):List UInt64:=
 [(oneR c v k w + twoR c v) &&& c.mask,v.getD 0 0,v.getD 1 0,v.getD 2 0,(v.getD 3 0 + oneR c v k w) &&& c.mask,v.getD 4 0,v.getD 5 0,v.getD 6 0]
def rdsR (c:Cf) (w v:List UInt64):Nat→List UInt64
 | 0=>v
 | i + 1=>rdR c (rdsR c w v i) (c.k.getD i 0) (w.getD i 0)
def hR (c:Cf) (h v:List UInt64):Nat→List UInt64
 | 0=>h
 | i + 1=>(hR c h v i).set i (((hR c h v i).getD i 0 + v.getD i 0) &&& c.mask)
def blkR (c:Cf) (h:List UInt64) (all:List UInt8) (at_:Nat):List UInt64:=hR c h (rdsR c (wRs c all at_ c.n) h c.n) 8
def blksR (c:Cf) (h:List UInt64) (all:List UInt8):Nat→List UInt64
 | 0=>h
 | q + 1=>blkR c (blksR c h all q) all (16 * c.wd * q)
def lenR (wd2:Nat) (t:List UInt8) (n:UInt64):Nat→List UInt8
 | 0=>t
 | k + 1=>lenR wd2 t n k ++ [if wd2 - 1 - k < 8 then (shr64 (shl64 n 3) (8 * (wd2 - 1 - k))).toUInt8 else 0]
def oR (wd:Nat) (x:UInt64) (out:List UInt8):Nat→List UInt8
 | 0=>out
 | j + 1=>oR wd x out j ++ [(shr64 x (8 * (wd - 1 - j))).toUInt8]
def outR (wd:Nat) (h:List UInt64):Nat→List UInt8
 | 0=>[]
 | i + 1=>oR wd (h.getD i 0) (outR wd h i) wd
def allR (wd:Nat) (b:List UInt8) (z:Nat):List UInt8:=lenR (2 * wd) (padT b z) (UInt64.ofInt (b.length:Int)) (2 * wd)
def hashR (c:Cf) (h:List UInt64) (b:List UInt8) (z:Nat):List UInt8:=outR c.wd (blksR c h (allR c.wd b z) ((allR c.wd b z).length / (16 * c.wd))) 8
theorem wR_length (c:Cf) (all:List UInt8) (a:Nat) (w:List UInt64) (i:Nat):∀ j,(wR c all a w i j).length = w.length
 | 0=>rfl
 | j + 1=>by simp only [wR,List.length_set,wR_length c all a w i j]
theorem wRs_length (c:Cf) (all:List UInt8) (a:Nat):∀ i,(wRs c all a i).length = c.n
 | 0=>List.length_replicate
 | i + 1=>by
  simp only [wRs]
  split
  ·rw [List.length_set,wRs_length c all a i]
  ·rw [wR_length,wRs_length c all a i]
theorem rdsR_length (c:Cf) (w:List UInt64) {v:List UInt64} (h:v.length = 8):∀ i,(rdsR c w v i).length = 8
 | 0=>h
 | i + 1=>rfl
theorem hR_length (c:Cf) {h:List UInt64} (v:List UInt64) (hh:h.length = 8):∀ i,(hR c h v i).length = 8
 | 0=>hh
 | i + 1=>by simp only [hR,List.length_set,hR_length c v hh i]
theorem blksR_length (c:Cf) {h:List UInt64} (all:List UInt8) (hh:h.length = 8):∀ q,(blksR c h all q).length = 8
 | 0=>hh
 | q + 1=>hR_length c _ (blksR_length c all hh q) 8
theorem lenR_length (wd2:Nat) (t:List UInt8) (n:UInt64):∀ k,(lenR wd2 t n k).length = t.length + k
 | 0=>rfl
 | k + 1=>by simp only [lenR,List.length_append,lenR_length wd2 t n k,List.length_cons,List.length_nil];omega
theorem oR_length (wd:Nat) (x:UInt64) (out:List UInt8):∀ j,(oR wd x out j).length = out.length + j
 | 0=>rfl
 | j + 1=>by simp only [oR,List.length_append,oR_length wd x out j,List.length_cons,List.length_nil];omega
theorem outR_length (wd:Nat) (h:List UInt64):∀ i,(outR wd h i).length = wd * i
 | 0=>rfl
 | i + 1=>by simp only [outR,oR_length,outR_length wd h i,Nat.mul_succ]
theorem u64_small (i:Nat) (h:i < 100000):(UInt64.ofInt (i:Int)).toNat = i:=by
 simp [UInt64.ofInt]
 omega
@[irreducible] def C32:Cf:=⟨32,UInt64.ofNat 4294967295,S32,R32,64,4⟩
theorem C32_eq:C32 = ⟨32,UInt64.ofNat 4294967295,S32,R32,64,4⟩:=by unfold C32;rfl
end Go.Proofs.Ytlbmkjckbfeejaa
