/- What the functions of the program compute. No condition. -/
import Derived.Test.YtfnmgbillkiabaaGreatHwRc3ToRc4
set_option linter.unusedSimpArgs false
set_option linter.unusedVariables false
set_option maxRecDepth 100000
namespace Go.Proofs.YtfnmgbillkiabaaGreat
open Go Go.Sx
set_option maxHeartbeats 4000000 in
theorem fn109 (b:List UInt8) (n:Nat) (hb:b.length = n) (hn:n <= 1000000):Sx.Fn Γ.P 109 [.isl 0 n 1 [(n,.a8 b)]] []
  (fun v M=>(spl b = none/\(∃ e:Int,e ≠ 0/\v = .tup [.nsl,.i .i64 e])/\M = []) \/ ∃ L m c,spl b = some L/\L.length = m/\m <= c/\m <= 64/\v = .tup [.sl 1006 0 0 m c,.i .i64 0]/\M = [(1006,.mem true (zmE (c - m) 1) [(m * 1,.arr m 1 (rwF L))])]):=by
 refine fn_cut [14,20] (Γ:=Γ) (fn:=Tryz.f109) rfl rfl rfl rfl ?_
 repeat (refine sd ?_)
 refine zB.intro (fun hz=>?_) (fun hz=>?_)
 ·have hz:(n:Int) = 0:=hz
  repeat (refine sd ?_)
  refine Ret.intro (.tup [.nsl,.i .i64 20]) [] [] rfl ?_ (Or.inl ⟨by rw [spl_eq,if_pos (by omega)],⟨20,by decide,rfl⟩,rfl⟩) rfl ?_ rfl ?_ rfl
  ·exact fc
  ·exact fc
  ·exact fc
 have hz:¬ (n:Int) = 0:=hz
 obtain ⟨u,hu⟩:∃ u,(b.getD 0 0).toNat = u:=⟨_,rfl⟩
 have hu1:u < 256:=by rw [<- hu];exact UInt8.toNat_lt _
 repeat (refine sd ?_)
 refine zB.intro (fun hg=>?_) (fun hg=>?_)
 ·have hg:b.getD (addQ 0 0) 0 > UInt8.ofNat 64:=hg
  rw [zQ,Nat.add_zero] at hg
  have hg:(UInt8.ofNat 64).toNat < (b.getD 0 0).toNat:=hg
  have h64:(UInt8.ofNat 64).toNat = 64:=rfl
  rw [hu,h64] at hg
  repeat (refine sd ?_)
  refine Ret.intro (.tup [.nsl,.i .i64 4]) [] [] rfl ?_ (Or.inl ⟨by rw [spl_eq,if_neg (by omega),hu,if_pos (by omega)],⟨4,by decide,rfl⟩,rfl⟩) rfl ?_ rfl ?_ rfl
  ·exact fc
  ·exact fc
  ·exact fc
 have hg:¬ b.getD (addQ 0 0) 0 > UInt8.ofNat 64:=hg
 rw [zQ,Nat.add_zero] at hg
 have hg:¬ (UInt8.ofNat 64).toNat < (b.getD 0 0).toNat:=hg
 have h64:(UInt8.ofNat 64).toNat = 64:=rfl
 rw [hu,h64] at hg
 have h0:spl b = (splR (u - 0) (b.drop 1)).map fun r=>[] ++ r:=by
  rw [spl_eq,if_neg (by omega),hu,if_neg (by omega)]
  show splR u (b.drop 1) = (splR u (b.drop 1)).map fun r=>[] ++ r
  cases splR u (b.drop 1) <;> rfl
 repeat (refine sd ?_)
 refine Loop.intro (σ:=List (List UInt8) × Nat × Nat × Nat) (fun s=>s.1.length = s.2.1/\s.2.1 <= s.2.2.1/\s.2.2.2 <= n/\s.2.1 <= u/\spl b = (splR (u - s.2.1) (b.drop s.2.2.2)).map fun r=>s.1 ++ r)
  (fun s=>([(0,.isl 0 n 1 [(n,.a8 b)]),(4,.sl 204 0 0 s.2.1 s.2.2.1),(5,.i .i64 (s.2.2.2:Int)),(6,.i .i64 (s.2.1:Int))],[(204,.mem true (zmE (s.2.2.1 - s.2.1) 1) [(s.2.1 * 1,.arr s.2.1 1 (rwF s.1))])]))
  (fun s=>u - s.2.1) ([],0,0,1) ⟨rfl,Nat.le_refl 0,by show 1 <= n;omega,Nat.zero_le _,h0⟩ ?_ ?_
 ·refine Le.ghost [.own 204 [(0 * 1,.arr 0 1 (rwF []))]] [(4,204)] [] rfl ?_ rfl rfl ?_ rfl ?_ rfl
  ·repeat' (first | (show zA _;first | exact trivial | refine zA.app ?_ ?_ | refine zA.zd ?_ ?_ | refine zA.cons ?_ ?_) | exact fd | fail)
   all_goals exact ⟨rfl,rfl,trivial⟩
  ·exact fc
  ·exact fc
 rintro ⟨L,j,c,i⟩ ⟨h1,h2,h3,h4,h5⟩
 have h1:L.length = j:=h1
 have h2:j <= c:=h2
 have h3:i <= n:=h3
 have h4:j <= u:=h4
 have h5:spl b = (splR (u - j) (b.drop i)).map fun r=>L ++ r:=h5
 repeat (refine sd ?_)
 refine zB.intro (fun hc=>?_) (fun hc=>?_)
 ·have hc:(j:Int) < ((b.getD (addQ 0 0) 0).toNat:Int):=hc
  rw [zQ,Nat.add_zero,hu] at hc
  obtain ⟨k,hk⟩:∃ k,u - j = k + 1:=⟨u - j - 1,by omega⟩
  rw [hk] at h5
  repeat (refine sd ?_)
  refine zB.intro (fun hs=>?_) (fun hs=>?_)
  ·have hs:(n:Int) - (i:Int) < 2:=hs
   repeat (refine sd ?_)
   refine Ret.intro (.tup [.nsl,.i .i64 20]) [] [] rfl ?_ (Or.inl ⟨by rw [h5,splR_short (by rw [zlD];omega)];rfl,⟨20,by decide,rfl⟩,rfl⟩) rfl ?_ rfl ?_ rfl
   ·exact fc
   ·exact fc
   ·exact fc
  have hs:¬ (n:Int) - (i:Int) < 2:=hs
  obtain ⟨p,hp⟩:∃ p,(b.getD i 0).toNat = p:=⟨_,rfl⟩
  obtain ⟨q,hq⟩:∃ q,(b.getD (i + 1) 0).toNat = q:=⟨_,rfl⟩
  have hp1:p < 256:=by rw [<- hp];exact UInt8.toNat_lt _
  have hq1:q < 256:=by rw [<- hq];exact UInt8.toNat_lt _
  obtain ⟨z,hz2⟩:∃ z,p * 256 + q = z:=⟨_,rfl⟩
  have hlen:((b.drop i).getD 0 0).toNat * 256 + ((b.drop i).getD 1 0).toNat = z:=by rw [getD_drop0,getD_drop0,Nat.add_zero,hp,hq];exact hz2
  have hl2:¬ (b.drop i).length < 2:=by rw [zlD];omega
  have e1:((i:Int) + 1).toNat = i + 1:=by omega
  refine Draw.intro [[],[],[0,1],[0,1,2],[0,1,2,3],[0,1,2,3,4],[],[],[7],[6,7,8],[6,7,8,9],[6,7,8,9,10],[0,1,2,3,4,5,6,7,8,9,10,11],[0,1,2,3,4,5,6,7,8,9,10,11,12]] [0,1,2,3,4,5,6,7,8,9,10,11,12,13] (by kernel_rfl) ?_
  repeat (refine Side.intro (by repeat' (first | (show zA _;first | exact trivial | refine zA.app ?_ ?_ | refine zA.zd ?_ ?_ | refine zA.cons ?_ ?_) | with_reducible rfl | with_reducible assumption | omega | (simp only [Nat.zero_add,zIn,e1,rng,Ix.val,zQ,addI,szs] <;> omega) | (simp only [Nat.zero_add,zIn,e1,rng,Ix.val,zIn,zme,zQ,addI,Option.getD_none,Option.getD_some,zlT,zlD,zlA,List.length_set,List.length_replicate,szs, *] <;> omega) | (simp only [Ix.val];with_reducible assumption) | exact UInt8.toNat_lt _ | (apply Eq.trans;(with_reducible assumption);exact rfl) | exact rfl | exact fun _ _=>rfl)) ?_)
  refine Cut.intro (σ:=Unit) (fun _=>True) (fun _=>([(0,.isl 0 n 1 [(n,.a8 b)]),(4,.sl 204 0 0 j c),(5,.i .i64 ((i + 2:Nat):Int)),(6,.i .i64 (j:Int)),(7,.i .i64 (z:Int))],[(204,.mem true (zmE (c - j) 1) [(j * 1,.arr j 1 (rwF L))])])) () trivial (Le.intro [(204,(204,0,none))] rfl ?_ rfl ?_ rfl) ?_
  ·repeat' (first | (show zA _;first | exact trivial | refine zA.app ?_ ?_ | refine zA.zd ?_ ?_ | refine zA.cons ?_ ?_) | exact fd | fail)
   all_goals first | (simp only [zQ,Nat.zero_add,e1,zIn,hp,hq,Ix.val];omega) | trace_state
  ·exact fc
  rintro - -
  repeat (refine sd ?_)
  refine zB.intro (fun hg2=>?_) (fun hg2=>?_)
  ·have hg2:4096 < (z:Int):=hg2
   repeat (refine sd ?_)
   refine Ret.intro (.tup [.nsl,.i .i64 5]) [] [] rfl ?_ (Or.inl ⟨by rw [h5,splR_long hl2 (by rw [hlen];omega)];rfl,⟨5,by decide,rfl⟩,rfl⟩) rfl ?_ rfl ?_ rfl
   ·exact fc
   ·exact fc
   ·exact fc
  have hg2:¬ 4096 < (z:Int):=hg2
  repeat (refine sd ?_)
  refine zB.intro (fun hv=>?_) (fun hv=>?_)
  ·have hv:(n:Int) - ((i + 2:Nat):Int) < (z:Int):=hv
   repeat (refine sd ?_)
   refine Ret.intro (.tup [.nsl,.i .i64 20]) [] [] rfl ?_ (Or.inl ⟨by rw [h5,splR_end hl2 (by rw [hlen];omega) (by rw [hlen,zlD,zlD];omega)];rfl,⟨20,by decide,rfl⟩,rfl⟩) rfl ?_ rfl ?_ rfl
   ·exact fc
   ·exact fc
   ·exact fc
  have hv:¬ (n:Int) - ((i + 2:Nat):Int) < (z:Int):=hv
  have hN5:spl b = (splR k (b.drop (i + 2 + z))).map fun r=>(L ++ [(b.drop (i + 2)).take z]) ++ r:=by
   rw [h5,splR_go hl2 (by rw [hlen];omega) (by rw [hlen,zlD,zlD];omega),hlen,List.drop_drop,List.drop_drop,Option.map_map]
   congr 1
   funext r
   simp
  have hpl:((b.drop (i + 2)).take z).length = z:=by rw [zlT,zlD];omega
  have e3:(((i + 2:Nat):Int) + (z:Int)).toNat = i + 2 + z:=by omega
  repeat (refine Side.intro (by repeat' (first | (show zA _;first | exact trivial | refine zA.app ?_ ?_ | refine zA.zd ?_ ?_ | refine zA.cons ?_ ?_) | with_reducible rfl | with_reducible assumption | omega | (simp only [Nat.zero_add,zIn,e3,rng,Ix.val,zQ,addI,szs] <;> omega) | (simp only [Nat.zero_add,zIn,e3,rng,Ix.val,zIn,zme,zQ,addI,Option.getD_none,Option.getD_some,zlT,zlD,zlA,List.length_set,List.length_replicate,szs, *] <;> omega) | (simp only [Ix.val];with_reducible assumption) | exact UInt8.toNat_lt _ | (apply Eq.trans;(with_reducible assumption);exact rfl) | exact rfl | exact fun _ _=>rfl)) ?_)
  refine fun c3 hc3=>?_
  have hc3:0 + ((((i + 2:Nat):Int) + (z:Int)).toNat - (((i + 2:Nat):Int)).toNat) <= c3:=hc3
  have hc3:z <= c3:=by omega
  obtain ⟨P,hP⟩:∃ P,(b.drop (i + 2)).take z = P:=⟨_,rfl⟩
  rw [hP] at hN5 hpl
  have hrw:=rw_next' h1 hpl
  have eP:P = [] ++ List.take ((((i + 2:Nat):Int) + (z:Int)).toNat - (((i + 2:Nat):Int)).toNat) (List.drop (addQ 0 (((i + 2:Nat):Int)).toNat) b):=by rw [e3,zIn,zQ,Nat.zero_add,List.nil_append,show i + 2 + z - (i + 2) = z by omega,hP]
  repeat (refine Side.intro (by repeat' (first | (show zA _;first | exact trivial | refine zA.app ?_ ?_ | refine zA.zd ?_ ?_ | refine zA.cons ?_ ?_) | with_reducible rfl | with_reducible assumption | omega | (simp only [Nat.zero_add,zIn,e3,rng,Ix.val,zQ,addI,szs] <;> omega) | (simp only [Nat.zero_add,zIn,e3,rng,Ix.val,zIn,zme,zQ,addI,Option.getD_none,Option.getD_some,zlT,zlD,zlA,List.length_set,List.length_replicate,szs, *] <;> omega) | (simp only [Ix.val];with_reducible assumption) | exact UInt8.toNat_lt _ | (apply Eq.trans;(with_reducible assumption);exact rfl) | exact rfl | exact fun _ _=>rfl)) ?_)
  refine Cut.intro (σ:=Unit) (fun _=>True) (fun _=>([(0,.isl 0 n 1 [(n,.a8 b)]),(4,.sl 204 0 0 j c),(5,.i .i64 ((i + 2:Nat):Int)),(6,.i .i64 (j:Int)),(7,.i .i64 (z:Int)),(8,.isl 0 z 1 [(z,.a8 P)])],[(204,.mem true (zmE (c - j) 1) [(j * 1,.arr j 1 (rwF L))])])) () trivial (Le.ghost [.keep 59] [(8,0)] [(204,(204,0,none))] rfl ?_ rfl rfl ?_ rfl ?_ rfl) ?_
  ·repeat' (first | (show zA _;first | exact trivial | refine zA.app ?_ ?_ | refine zA.zd ?_ ?_ | refine zA.cons ?_ ?_) | exact fd | fail)
   all_goals exact eP
  ·repeat' (first | (show zA _;first | exact trivial | refine zA.app ?_ ?_ | refine zA.zd ?_ ?_ | refine zA.cons ?_ ?_) | with_reducible rfl | with_reducible assumption | omega | (simp only [Nat.zero_add,zIn,e3,rng,Ix.val,zQ,addI,szs] <;> omega) | (simp only [Nat.zero_add,zIn,e3,rng,Ix.val,zIn,zme,zQ,addI,Option.getD_none,Option.getD_some,zlT,zlD,zlA,List.length_set,List.length_replicate,szs, *] <;> omega) | (simp only [Ix.val];with_reducible assumption) | exact UInt8.toNat_lt _ | (apply Eq.trans;(with_reducible assumption);exact rfl) | exact rfl | exact fun _ _=>rfl)
   all_goals exact eP
  ·repeat' (first | (show zA _;first | exact trivial | refine zA.app ?_ ?_ | refine zA.zd ?_ ?_ | refine zA.cons ?_ ?_) | exact fd | fail)
   all_goals exact eP
  rintro - -
  repeat (refine sd ?_)
  refine fun c4 hc4=>?_
  have hc4:j + 1 <= c4:=hc4
  repeat (refine sd ?_)
  refine ⟨(L ++ [P],j + 1,c4,i + 2 + z),⟨by show (L ++ _).length = j + 1;rw [zlA,h1];rfl,hc4,by show i + 2 + z <= n;omega,by show j + 1 <= u;omega,by show spl b = (splR (u - (j + 1)) (b.drop (i + 2 + z))).map _;rw [show u - (j + 1) = k by omega];exact hN5⟩,by show u - (j + 1) < u - j;omega,Le.intro [(204,(63,0,none))] rfl ?_ rfl ?_ rfl⟩
  ·exact fc
  ·repeat' (first | (show zA _;first | exact trivial | refine zA.app ?_ ?_ | refine zA.zd ?_ ?_ | refine zA.cons ?_ ?_) | exact fd | fail)
   all_goals exact hrw
 have hc:¬ (j:Int) < ((b.getD (addQ 0 0) 0).toNat:Int):=hc
 rw [zQ,Nat.add_zero,hu] at hc
 obtain rfl:j = u:=by omega
 rw [Nat.sub_self] at h5
 repeat (refine sd ?_)
 refine zB.intro (fun hz=>?_) (fun hz=>?_)
 ·have hz:(i:Int) < (n:Int):=hz
  repeat (refine sd ?_)
  refine Ret.intro (.tup [.nsl,.i .i64 21]) [] [] rfl ?_ (Or.inl ⟨by rw [h5,splR_zero,if_neg (by rw [zlD];omega)];rfl,⟨21,by decide,rfl⟩,rfl⟩) rfl ?_ rfl ?_ rfl
  ·exact fc
  ·exact fc
  ·exact fc
 have hz:¬ (i:Int) < (n:Int):=hz
 repeat (refine sd ?_)
 refine Ret.intro (.tup [.sl 1006 0 0 j c,.i .i64 0]) [(1006,.mem true (zmE (c - j) 1) [(j * 1,.arr j 1 (rwF L))])] [(1006,(204,0,none))] rfl ?_ (Or.inr ⟨L,j,c,?_,h1,h2,by omega,rfl,rfl⟩) rfl ?_ rfl ?_ rfl
 ·exact fc
 ·rw [h5,splR_zero,if_pos (by rw [zlD];omega)]
  simp
 ·exact fc
 ·exact fc
end Go.Proofs.YtfnmgbillkiabaaGreat
