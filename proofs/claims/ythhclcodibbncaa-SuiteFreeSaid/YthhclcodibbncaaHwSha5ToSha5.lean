/- What the functions of the program compute. No condition. -/
import Derived.Test.YthhclcodibbncaaHwSha2ToSha4
set_option linter.unusedSimpArgs false
set_option linter.unusedVariables false
set_option maxRecDepth 100000
namespace Go.Proofs.Ythhclcodibbncaa
open Go Go.Sx
@[irreducible] def H32:List UInt32:=[UInt32.ofNat 1779033703,UInt32.ofNat 3144134277,UInt32.ofNat 1013904242,UInt32.ofNat 2773480762,UInt32.ofNat 1359893119,UInt32.ofNat 2600822924,UInt32.ofNat 528734635,UInt32.ofNat 1541459225]
theorem H32_eq:H32 = [UInt32.ofNat 1779033703,UInt32.ofNat 3144134277,UInt32.ofNat 1013904242,UInt32.ofNat 2773480762,UInt32.ofNat 1359893119,UInt32.ofNat 2600822924,UInt32.ofNat 528734635,UInt32.ofNat 1541459225]:=by unfold H32;rfl
theorem H32_length:H32.length = 8:=by rw [H32_eq];rfl
def blks32 (h:List UInt32) (b:List UInt8):Nat→List UInt32
 | 0=>h
 | q + 1=>blk32 (blks32 h b q) ((b.drop (64 * q)).take 64)
theorem blks32_length {h:List UInt32} (hh:h.length = 8) (b:List UInt8):∀ q,(blks32 h b q).length = 8
 | 0=>hh
 | q + 1=>blk32_length (blks32_length hh b q) _
def hashE (h:List UInt32) (r:SV) (n:UInt64):Ent:=.mem true 0 [(8,.a32 h),(1,r),(1,.u64 n)]
theorem fn37:Sx.Fn Γ.P 37 [] [] (fun v M=>v = .ptr 1001 0 none∧M = [(1001,hashE H32 .nsl 0)]):=by
 have hH:=H32_eq
 refine fn_of (Γ:=Γ) (fn:=Try.f37) rfl rfl rfl rfl ?_
 repeat (refine sd ?_)
 refine Ret.intro (.ptr 1001 0 none) [(1001,hashE H32 .nsl 0)] [(1001,(3,0,none))] rfl trivial ⟨rfl,rfl⟩ rfl ?_ rfl ?_ rfl
 ·exact fc
 ·exact fc
def putPost (h:List UInt32) (R b:List UInt8) (n:UInt64) (m:Nat) (old:Mm) (v:SV) (M:Mm):Prop:=
 ∃ c,R.length + m ≤ c∧v = .tup [] ∧
  M = [(1000,hashE (blks32 h (R ++ b) ((R.length + m) / 64)) (.sl 1005 0 (64 * ((R.length + m) / 64)) (R.length + m - 64 * ((R.length + m) / 64)) (c - 64 * ((R.length + m) / 64))) (n + UInt64.ofInt (m:Int)))] ++ old ++
   [(1002,.mem false 0 [(m,.a8 b)]),(1005,.mem true (c - (R.length + m)) [(R.length + m,.a8 (R ++ b))])]
set_option maxHeartbeats 1000000 in
theorem fnPutB (h:List UInt32) (l b R:List UInt8) (n:UInt64) (i r c0 sp m:Nat) (hh:h.length = 8) (hl:l.length = i + r) (hR:l.drop i = R) (hc0:c0 = r + sp) (hb:b.length = m) (hmax:r + m ≤ 100000000) :
  Sx.Fn Γ.P 38 [.ptr 1000 0 none,.slx 1002 0 0 m] [(1000,hashE h (.sl 1001 0 i r c0) n),(1001,.mem true sp [(i + r,.a8 l)]),(1002,.mem false 0 [(m,.a8 b)])] (putPost h R b n m [(1001,.dead)]):=by
 have hRl:R.length = r:=by rw [← hR,List.length_drop];omega
 refine fn_of (Γ:=Γ) (fn:=Try.f38) rfl rfl rfl rfl ?_
 obtain ⟨N,hN⟩:∃ x,R.length + m = x:=⟨_,rfl⟩
 obtain ⟨A,hA⟩:∃ x,R ++ b = x:=⟨_,rfl⟩
 have hAl:A.length = N:=by rw [← hA,List.length_append,hb,hN]
 have hA2:A = dropQ i l ++ List.take m (List.drop 0 b):=by rw [dropQ_eq,hR,List.drop_zero,List.take_of_length_le (by omega),hA]
 repeat (refine sd ?_)
 intro c hc
 have hc:R.length + m ≤ c:=by have:r + m ≤ c:=hc;omega
 repeat (refine sd ?_)
 refine Loop.intro (σ:=Nat) (fun q=>q ≤ N / 64)
  (fun q=>([(0,.ptr 1000 0 none)],
   [(1000,hashE (blks32 h A q) (.sl 200 0 (64 * q) (N - 64 * q) (c - 64 * q)) (n + UInt64.ofInt (m:Int))),(1001,.dead),(1002,.mem false 0 [(m,.a8 b)]),(200,.mem true (c - N) [(N,.a8 A)])])) (fun q=>N / 64 - q) 0 (Nat.zero_le _) ?_ ?_
 ·refine Le.intro [(200,(20,0,none))] rfl ?_ rfl ?_ rfl
  ·exact fc
  ·repeat' (first | (show AllP _;first | exact trivial | refine AllP.app ?_ ?_ | refine AllP.appd ?_ ?_ | refine AllP.cons ?_ ?_) | with_reducible rfl | with_reducible assumption | omega | (simp only [rng,Ix.val,addQ_eq,addI,sz3,by3,sz5,by5,sz23,by23,sz84,by84,sz109,by109,sz110,by110,sz111,by111,sz112,by112,sz114,by114,sz140,by140] <;> omega) | (simp only [rng,Ix.val,Int.toNat_natCast,mulE_eq,addQ_eq,addI,Option.getD_none,Option.getD_some,List.length_take,List.length_drop,List.length_append,List.length_set,List.length_replicate,sz3,by3,sz5,by5,sz23,by23,sz84,by84,sz109,by109,sz110,by110,sz111,by111,sz112,by112,sz114,by114,sz140,by140, *] <;> omega) | (simp only [Ix.val];with_reducible assumption) | exact UInt8.toNat_lt _ | (apply Eq.trans;(with_reducible assumption);exact rfl) | exact rfl | exact fun _ _=>rfl)
   all_goals exact hA2
 rintro q hq
 have hbl:=blks32_length hh A q
 refine Branch.intro (fun hc1=>?_) (fun hc1=>?_)
 ·have hc1:((N - 64 * q:Nat):Int) ≥ 64:=hc1
  refine Draw.intro [[],[0],[0,1],[],[3],[3,4],[3,4,5],[3,4,5,6],[0,1,2,3,4,5,6,7]] [0,1,2,3,4,5,6,7,8] (by kernel_rfl) ?_
  repeat (refine sd ?_)
  have hB:=fn57 (blks32 h A q) ((A.drop (64 * q)).take 64) hbl (by simp only [List.length_take,List.length_drop];omega)
  refine Call.intro hB [(1000,(1000,0,none)),(1001,(200,0,some (64 * q)))] rfl ?_ rfl ?_ rfl ?_
  ·exact fc
  ·exact fc
  rintro v M' ⟨rfl,rfl⟩
  repeat (refine sd ?_)
  refine ⟨q + 1,by omega,by omega,Le.intro [] rfl fc rfl ?_ rfl⟩
  have e1:64 * q + 64 = 64 * (q + 1):=by omega
  have e2:N - 64 * q - 64 = N - 64 * (q + 1):=by omega
  have e3:c - 64 * q - 64 = c - 64 * (q + 1):=by omega
  exact fc
 ·obtain rfl:q = N / 64:=by have hc1:¬ ((N - 64 * q:Nat):Int) ≥ 64:=hc1;omega
  subst hA
  subst hN
  refine Ret.intro (.tup []) ([(1000,hashE (blks32 h (R ++ b) ((R.length + m) / 64)) (.sl 1005 0 (64 * ((R.length + m) / 64)) (R.length + m - 64 * ((R.length + m) / 64)) (c - 64 * ((R.length + m) / 64))) (n + UInt64.ofInt (m:Int)))] ++ [(1001,.dead)] ++
    [(1002,.mem false 0 [(m,.a8 b)]),(1005,.mem true (c - (R.length + m)) [(R.length + m,.a8 (R ++ b))])]) [(1005,(200,0,none))] rfl ?_ ⟨c,hc,rfl,rfl⟩ rfl ?_ rfl ?_ rfl
  ·exact fc
  ·exact fc
  ·exact fc
set_option maxHeartbeats 1000000 in
theorem fnPutA (h:List UInt32) (b:List UInt8) (n:UInt64) (m:Nat) (hh:h.length = 8) (hb:b.length = m) (hmax:m ≤ 100000000) :
  Sx.Fn Γ.P 38 [.ptr 1000 0 none,.slx 1002 0 0 m] [(1000,hashE h .nsl n),(1002,.mem false 0 [(m,.a8 b)])] (putPost h [] b n m []):=by
 refine fn_of (Γ:=Γ) (fn:=Try.f38) rfl rfl rfl rfl ?_
 obtain ⟨R,hR⟩:∃ x:List UInt8,[] = x:=⟨_,rfl⟩
 have hRl:R.length = 0:=by rw [← hR];rfl
 rw [hR]
 obtain ⟨N,hN⟩:∃ x,R.length + m = x:=⟨_,rfl⟩
 obtain ⟨A,hA⟩:∃ x,R ++ b = x:=⟨_,rfl⟩
 have hAl:A.length = N:=by rw [← hA,List.length_append,hb,hN]
 have hA2:A = [] ++ List.take m (List.drop 0 b):=by rw [List.drop_zero,List.take_of_length_le (by omega),hR,hA]
 repeat (refine sd ?_)
 intro c hc
 have hc:R.length + m ≤ c:=by have:0 + m ≤ c:=hc;omega
 repeat (refine sd ?_)
 refine Loop.intro (σ:=Nat) (fun q=>q ≤ N / 64)
  (fun q=>([(0,.ptr 1000 0 none)],
   [(1000,hashE (blks32 h A q) (.sl 200 0 (64 * q) (N - 64 * q) (c - 64 * q)) (n + UInt64.ofInt (m:Int))),(1002,.mem false 0 [(m,.a8 b)]),(200,.mem true (c - N) [(N,.a8 A)])])) (fun q=>N / 64 - q) 0 (Nat.zero_le _) ?_ ?_
 ·refine Le.intro [(200,(20,0,none))] rfl ?_ rfl ?_ rfl
  ·exact fc
  ·repeat' (first | (show AllP _;first | exact trivial | refine AllP.app ?_ ?_ | refine AllP.appd ?_ ?_ | refine AllP.cons ?_ ?_) | with_reducible rfl | with_reducible assumption | omega | (simp only [rng,Ix.val,addQ_eq,addI,sz3,by3,sz5,by5,sz23,by23,sz84,by84,sz109,by109,sz110,by110,sz111,by111,sz112,by112,sz114,by114,sz140,by140] <;> omega) | (simp only [rng,Ix.val,Int.toNat_natCast,mulE_eq,addQ_eq,addI,Option.getD_none,Option.getD_some,List.length_take,List.length_drop,List.length_append,List.length_set,List.length_replicate,sz3,by3,sz5,by5,sz23,by23,sz84,by84,sz109,by109,sz110,by110,sz111,by111,sz112,by112,sz114,by114,sz140,by140, *] <;> omega) | (simp only [Ix.val];with_reducible assumption) | exact UInt8.toNat_lt _ | (apply Eq.trans;(with_reducible assumption);exact rfl) | exact rfl | exact fun _ _=>rfl)
   all_goals exact hA2
 rintro q hq
 have hbl:=blks32_length hh A q
 refine Branch.intro (fun hc1=>?_) (fun hc1=>?_)
 ·have hc1:((N - 64 * q:Nat):Int) ≥ 64:=hc1
  refine Draw.intro [[],[0],[0,1],[],[3],[3,4],[3,4,5],[3,4,5,6],[0,1,2,3,4,5,6,7]] [0,1,2,3,4,5,6,7,8] (by kernel_rfl) ?_
  repeat (refine sd ?_)
  have hB:=fn57 (blks32 h A q) ((A.drop (64 * q)).take 64) hbl (by simp only [List.length_take,List.length_drop];omega)
  refine Call.intro hB [(1000,(1000,0,none)),(1001,(200,0,some (64 * q)))] rfl ?_ rfl ?_ rfl ?_
  ·exact fc
  ·exact fc
  rintro v M' ⟨rfl,rfl⟩
  repeat (refine sd ?_)
  refine ⟨q + 1,by omega,by omega,Le.intro [] rfl fc rfl ?_ rfl⟩
  have e1:64 * q + 64 = 64 * (q + 1):=by omega
  have e2:N - 64 * q - 64 = N - 64 * (q + 1):=by omega
  have e3:c - 64 * q - 64 = c - 64 * (q + 1):=by omega
  exact fc
 ·obtain rfl:q = N / 64:=by have hc1:¬ ((N - 64 * q:Nat):Int) ≥ 64:=hc1;omega
  subst hA
  subst hN
  refine Ret.intro (.tup []) ([(1000,hashE (blks32 h (R ++ b) ((R.length + m) / 64)) (.sl 1005 0 (64 * ((R.length + m) / 64)) (R.length + m - 64 * ((R.length + m) / 64)) (c - 64 * ((R.length + m) / 64))) (n + UInt64.ofInt (m:Int)))] ++ [] ++
    [(1002,.mem false 0 [(m,.a8 b)]),(1005,.mem true (c - (R.length + m)) [(R.length + m,.a8 (R ++ b))])]) [(1005,(200,0,none))] rfl ?_ ⟨c,hc,rfl,rfl⟩ rfl ?_ rfl ?_ rfl
  ·exact fc
  ·exact fc
  ·exact fc
end Go.Proofs.Ythhclcodibbncaa
