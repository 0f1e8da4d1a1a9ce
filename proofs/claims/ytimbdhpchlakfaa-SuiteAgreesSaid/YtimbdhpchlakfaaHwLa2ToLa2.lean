/- What the functions of the program compute. No condition. -/
import Derived.Test.YtimbdhpchlakfaaHwLa1ToLa1
set_option linter.unusedSimpArgs false
set_option linter.unusedVariables false
namespace Go.Proofs.Ytimbdhpchlakfaa
open Go Go.Sx Go.Cu
def laI (c u:List UInt8) (s:Nat × LL × UInt8):Prop:=s.1 ≤ 254∧ladL (ofL u) c s.1 = (s.2.1,s.2.2)
def laT (s:Nat × LL × UInt8):Tm:=[(2,.ptr 2 0 none),(4,.ptr 4 0 none),(6,.ptr 6 0 none),(7,.ptr 7 0 none),(8,.ptr 8 0 none),(9,.u8 s.2.2),(10,.i .i64 (254 - (s.1:Int)))]
def laM (c u:List UInt8) (s:Nat × LL × UInt8):Mm:=[(2,.mem true 0 [(32,.a8 c)]),(4,.mem true 0 [(32,.a8 (List.replicate 32 0))]),(6,.mem true 0 [(5,.a64 (ofL u))]),
 (7,.mem true 0 [(5,.a64 s.2.1.ax),(5,.a64 s.2.1.az)]),(8,.mem true 0 [(5,.a64 s.2.1.bx),(5,.a64 s.2.1.bz)])]
theorem la_at (c u:List UInt8) (s:Nat × LL × UInt8) (h:laI c u s):s.2.1.B:=by
 have hb:=ladL_B (ofL_val u).2 c s.1
 rw [h.2] at hb;exact hb
set_option maxRecDepth 100000 in
set_option maxHeartbeats 4000000 in
theorem fn16 (sec u:List UInt8) (h1:sec.length = 32) (h2:u.length = 32):Sx.Fn Γ.P 16 [.a8 sec,.a8 u] [] (fun v _=>v = .a8 (ladB (clB sec) u)):=by
  have cOne:=fn27 (UInt8.ofNat 1 :: List.replicate 31 0) rfl
  have cU:=fn27 u h2
  have lu:=(ofL_val u).2.1
  have hc:clB sec = (sec.set 0 (sec.getD 0 0 &&& UInt8.ofNat 248)).set 31 (((sec.set 0 (sec.getD 0 0 &&& UInt8.ofNat 248)).getD 31 0 &&& UInt8.ofNat 127) ||| UInt8.ofNat 64):=rfl
  have lc:=clB_length sec
  rw [h1] at lc
  have hst:ladL (ofL u) (clB sec) 0 = (⟨ofL (UInt8.ofNat 1 :: List.replicate 31 0),List.replicate 5 0,ofL u,ofL (UInt8.ofNat 1 :: List.replicate 31 0)⟩,UInt8.ofNat 0):=rfl
  generalize clB sec = c at *
  have lone:=(ofL_val (UInt8.ofNat 1 :: List.replicate 31 0)).2.1
  generalize ofL (UInt8.ofNat 1 :: List.replicate 31 0) = one at *
  have hbd:(Try.f16).body = some (.seq _ (.scope _)):=rfl
  refine fn_scope [8,1000011] (Γ:=Γ) (fn:=Try.f16) rfl hbd rfl rfl ?_
  clear hbd
  repeat (refine sd ?_)
  refine ScopeG.intro [0] (fun _ s=>laI c u s) (fun _ s=>(laT s,laM c u s)) (fun _ s=>255 - s.1) rfl ?_ ⟨?_,trivial⟩
  · repeat (refine sd ?_)
    refine Call.pure cOne rfl ?_ ?_
    · exact fc
    intro v hv
    subst hv
    repeat (first | (refine Grow.intro [] rfl rfl ?_) | (refine Grow.turn rfl rfl ?_) | (refine Grow.auto rfl rfl ?_) | (refine sd ?_))
    refine Call.pure cU rfl ?_ ?_
    · exact fc
    intro v hv
    subst hv
    repeat (first | (refine Grow.intro [] rfl rfl ?_) | (refine Grow.turn rfl rfl ?_) | (refine Grow.auto rfl rfl ?_) | (refine sd ?_))
    refine Draw.intro [[],[],[0,1],[],[],[3,4],[],[],[0,1,2,6,7],[0,1,2,3,4,5,6,7,8]] [0,1,2,3,4,5,6,7,8,9] (by kernel_rfl) ?_
    repeat (first | (refine Grow.intro [] rfl rfl ?_) | (refine Grow.turn rfl rfl ?_) | (refine Grow.auto rfl rfl ?_) | (refine sd ?_))
    refine Cut.intro (σ:=Nat × LL × UInt8) (laI c u) (fun s=>(laT s,laM c u s)) (0,⟨one,List.replicate 5 0,ofL u,one⟩,UInt8.ofNat 0) ⟨Nat.zero_le _,hst⟩ (Le.intro [] rfl ?_ rfl ?_ rfl) ?_
    · exact fc
    · exact fc
    rintro ⟨k,s,l⟩ hI
    obtain ⟨⟨b1,b2,b3,b4⟩,hk,hs⟩:=(⟨la_at c u _ hI,hI.1,hI.2⟩:LL.B _∧_∧_)
    unfold laT laM
    simp only at hk hs b1 b2 b3 b4
    have l1:=b1.1
    have l2:=b2.1
    have l3:=b3.1
    have l4:=b4.1
    have e0:((254 - (k:Int)) / 8).toNat = (254 - k) / 8:=by omega
    have e1:((254 - (k:Int)) % 8).toNat = (254 - k) % 8:=by omega
    have hn:ladL (ofL u) c (k + 1) = (stpL (ofL u) (s.turn l (bitU c (254 - k))),bitU c (254 - k)):=by show (stpL (ofL u) ((ladL (ofL u) c k).1.turn (ladL (ofL u) c k).2 (bitU c (254 - k))),bitU c (254 - k)) = _;rw [hs]
    have hbit:bitU c (254 - k) = shr8 (c.getD ((254 - k) / 8) 0) ((254 - k) % 8) &&& UInt8.ofNat 1:=rfl
    repeat (refine Side.intro (by repeat' (first | (show AllP _;first | exact trivial | refine AllP.app ?_ ?_ | refine AllP.appd ?_ ?_ | refine AllP.cons ?_ ?_) | with_reducible rfl | with_reducible assumption | omega | (simp only [Nat.zero_add,e0,e1,rng,Ix.val,addQ_eq,addI,szs] <;> omega) | (simp only [Nat.zero_add,e0,e1,rng,Ix.val,Int.toNat_natCast,mulE_eq,addQ_eq,addI,Option.getD_none,Option.getD_some,List.length_take,List.length_drop,List.length_append,List.length_set,List.length_replicate,szs, *] <;> omega) | (simp only [Ix.val];with_reducible assumption) | exact UInt8.toNat_lt _ | (apply Eq.trans;(with_reducible assumption);exact rfl) | exact rfl | exact fun _ _=>rfl)) ?_)
    refine Join.intro (σ:=Unit) (fun _=>True) (fun _=>([(2,.ptr 2 0 none),(4,.ptr 4 0 none),(6,.ptr 6 0 none),(7,.ptr 7 0 none),(8,.ptr 8 0 none),(10,.i .i64 (254 - (k:Int))),(11,.u8 (bitU c (254 - k)))],
      [(2,.mem true 0 [(32,.a8 c)]),(4,.mem true 0 [(32,.a8 (List.replicate 32 0))]),(6,.mem true 0 [(5,.a64 (ofL u))]),(7,.mem true 0 [(5,.a64 (s.turn l (bitU c (254 - k))).ax),(5,.a64 (s.turn l (bitU c (254 - k))).az)]),
       (8,.mem true 0 [(5,.a64 (s.turn l (bitU c (254 - k))).bx),(5,.a64 (s.turn l (bitU c (254 - k))).bz)])])) ?_ ?_
    · refine Branch.intro (fun hb=>?_) (fun hb=>?_)
      · have hb:¬ shr8 (c.getD ((254 - (k:Int)) / 8).toNat 0) ((254 - (k:Int)) % 8).toNat &&& UInt8.ofNat 1 = l:=hb
        rw [e0,e1,← hbit] at hb
        have ht:s.turn l (bitU c (254 - k)) = ⟨s.bx,s.bz,s.ax,s.az⟩:=by unfold LL.turn;rw [if_neg hb];rfl
        rw [ht]
        repeat (refine Side.intro (by repeat' (first | (show AllP _;first | exact trivial | refine AllP.app ?_ ?_ | refine AllP.appd ?_ ?_ | refine AllP.cons ?_ ?_) | with_reducible rfl | with_reducible assumption | omega | (simp only [Nat.zero_add,e0,e1,rng,Ix.val,addQ_eq,addI,szs] <;> omega) | (simp only [Nat.zero_add,e0,e1,rng,Ix.val,Int.toNat_natCast,mulE_eq,addQ_eq,addI,Option.getD_none,Option.getD_some,List.length_take,List.length_drop,List.length_append,List.length_set,List.length_replicate,szs, *] <;> omega) | (simp only [Ix.val];with_reducible assumption) | exact UInt8.toNat_lt _ | (apply Eq.trans;(with_reducible assumption);exact rfl) | exact rfl | exact fun _ _=>rfl)) ?_)
        refine ⟨(),trivial,Le.intro [] rfl ?_ rfl ?_ rfl⟩
        · repeat' (first | (show AllP _;first | exact trivial | refine AllP.app ?_ ?_ | refine AllP.appd ?_ ?_ | refine AllP.cons ?_ ?_) | with_reducible rfl | with_reducible assumption | omega | (simp only [Nat.zero_add,e0,e1,rng,Ix.val,addQ_eq,addI,szs] <;> omega) | (simp only [Nat.zero_add,e0,e1,rng,Ix.val,Int.toNat_natCast,mulE_eq,addQ_eq,addI,Option.getD_none,Option.getD_some,List.length_take,List.length_drop,List.length_append,List.length_set,List.length_replicate,szs, *] <;> omega) | (simp only [Ix.val];with_reducible assumption) | exact UInt8.toNat_lt _ | (apply Eq.trans;(with_reducible assumption);exact rfl) | exact rfl | exact fun _ _=>rfl)
        · repeat' (first | (show AllP _;first | exact trivial | refine AllP.app ?_ ?_ | refine AllP.appd ?_ ?_ | refine AllP.cons ?_ ?_) | with_reducible rfl | with_reducible assumption | omega | (simp only [Nat.zero_add,e0,e1,rng,Ix.val,addQ_eq,addI,szs] <;> omega) | (simp only [Nat.zero_add,e0,e1,rng,Ix.val,Int.toNat_natCast,mulE_eq,addQ_eq,addI,Option.getD_none,Option.getD_some,List.length_take,List.length_drop,List.length_append,List.length_set,List.length_replicate,szs, *] <;> omega) | (simp only [Ix.val];with_reducible assumption) | exact UInt8.toNat_lt _ | (apply Eq.trans;(with_reducible assumption);exact rfl) | exact rfl | exact fun _ _=>rfl)
      · have hb:¬ ¬ shr8 (c.getD ((254 - (k:Int)) / 8).toNat 0) ((254 - (k:Int)) % 8).toNat &&& UInt8.ofNat 1 = l:=hb
        rw [e0,e1,← hbit] at hb
        have ht:s.turn l (bitU c (254 - k)) = s:=by unfold LL.turn;rw [if_pos (Classical.not_not.1 hb)]
        rw [ht]
        repeat (refine Side.intro (by repeat' (first | (show AllP _;first | exact trivial | refine AllP.app ?_ ?_ | refine AllP.appd ?_ ?_ | refine AllP.cons ?_ ?_) | with_reducible rfl | with_reducible assumption | omega | (simp only [Nat.zero_add,e0,e1,rng,Ix.val,addQ_eq,addI,szs] <;> omega) | (simp only [Nat.zero_add,e0,e1,rng,Ix.val,Int.toNat_natCast,mulE_eq,addQ_eq,addI,Option.getD_none,Option.getD_some,List.length_take,List.length_drop,List.length_append,List.length_set,List.length_replicate,szs, *] <;> omega) | (simp only [Ix.val];with_reducible assumption) | exact UInt8.toNat_lt _ | (apply Eq.trans;(with_reducible assumption);exact rfl) | exact rfl | exact fun _ _=>rfl)) ?_)
        refine ⟨(),trivial,Le.intro [] rfl ?_ rfl ?_ rfl⟩
        · repeat' (first | (show AllP _;first | exact trivial | refine AllP.app ?_ ?_ | refine AllP.appd ?_ ?_ | refine AllP.cons ?_ ?_) | with_reducible rfl | with_reducible assumption | omega | (simp only [Nat.zero_add,e0,e1,rng,Ix.val,addQ_eq,addI,szs] <;> omega) | (simp only [Nat.zero_add,e0,e1,rng,Ix.val,Int.toNat_natCast,mulE_eq,addQ_eq,addI,Option.getD_none,Option.getD_some,List.length_take,List.length_drop,List.length_append,List.length_set,List.length_replicate,szs, *] <;> omega) | (simp only [Ix.val];with_reducible assumption) | exact UInt8.toNat_lt _ | (apply Eq.trans;(with_reducible assumption);exact rfl) | exact rfl | exact fun _ _=>rfl)
        · repeat' (first | (show AllP _;first | exact trivial | refine AllP.app ?_ ?_ | refine AllP.appd ?_ ?_ | refine AllP.cons ?_ ?_) | with_reducible rfl | with_reducible assumption | omega | (simp only [Nat.zero_add,e0,e1,rng,Ix.val,addQ_eq,addI,szs] <;> omega) | (simp only [Nat.zero_add,e0,e1,rng,Ix.val,Int.toNat_natCast,mulE_eq,addQ_eq,addI,Option.getD_none,Option.getD_some,List.length_take,List.length_drop,List.length_append,List.length_set,List.length_replicate,szs, *] <;> omega) | (simp only [Ix.val];with_reducible assumption) | exact UInt8.toNat_lt _ | (apply Eq.trans;(with_reducible assumption);exact rfl) | exact rfl | exact fun _ _=>rfl)
    rintro - -
    have hB:=LL.turn_B (⟨b1,b2,b3,b4⟩:LL.B s) l (bitU c (254 - k))
    have hsb:=stpL_B (ofL u) (s.turn l (bitU c (254 - k)))
    generalize s.turn l (bitU c (254 - k)) = t at *
    clear hbit e0 e1
    generalize bitU c (254 - k) = w at *
    obtain ⟨t1,t2,t3,t4⟩:=hB
    have cS:=fn28 t.ax t.az t.bx t.bz (ofL u) t1.1 t2.1 t3.1 t4.1 lu
    have ett:(⟨t.ax,t.az,t.bx,t.bz⟩:LL) = t:=rfl
    rw [ett] at cS
    obtain ⟨r,hr⟩:∃ r,stpL (ofL u) t = r:=⟨_,rfl⟩
    rw [hr] at cS hsb hn
    obtain ⟨r1,r2,r3,r4⟩:=hsb
    have n1:=r1.1
    have n2:=r2.1
    have n3:=r3.1
    have n4:=r4.1
    have q1:=t1.1
    have q2:=t2.1
    have q3:=t3.1
    have q4:=t4.1
    repeat (refine sd ?_)
    refine Call.pure cS rfl ?_ ?_
    · exact fc
    intro v hv
    subst hv
    repeat (first | (refine Grow.intro [] rfl rfl ?_) | (refine Grow.turn rfl rfl ?_) | (refine Grow.auto rfl rfl ?_) | (refine sd ?_))
    refine Branch.intro (fun hp=>?_) (fun hp=>?_)
    · have hp:0 < 254 - (k:Int):=hp
      repeat (refine sd ?_)
      refine ⟨rfl,(k + 1,r,w),⟨by show k + 1 ≤ 254;omega,hn⟩,trivial,Le.intro [] rfl ?_ rfl ?_ rfl⟩
      · exact fc
      · exact fc
    · have hp:¬ 0 < 254 - (k:Int):=hp
      obtain rfl:k = 254:=by omega
      obtain ⟨f1,f2⟩:=ladL_end hn
      repeat (refine sd ?_)
      refine Branch.intro (fun hw=>?_) (fun hw=>?_)
      · have hw:w = UInt8.ofNat 1:=hw
        have f:=f1 hw
        rw [bytL_eq] at f
        have cI:=fn31 r.bz n4
        have lI:=(invL_lb r.bz).1
        have cM:=fn30 r.bx (invL r.bz) n3 lI
        have lM:=(mulL_lb r.bx (invL r.bz)).1
        have cB:=fnBytesF (mulL r.bx (invL r.bz)) lM
        have lF:=ladB_length c u
        rw [f] at cB
        generalize ladB c u = B at *
        generalize mulL r.bx (invL r.bz) = Y at *
        generalize invL r.bz = Z at *
        repeat (refine sd ?_)
        refine Draw.intro [[],[0],[],[2],[2,3],[0,1,2,3,4],[0,1,2,3,4,5],[0,1,2,3,4,5,6]] [0,1,2,3,4,5,6,7] (by kernel_rfl) ?_
        repeat (first | (refine Grow.intro [] rfl rfl ?_) | (refine Grow.turn rfl rfl ?_) | (refine Grow.auto rfl rfl ?_) | (refine sd ?_))
        refine Call.pure cI rfl ?_ ?_
        · exact fc
        intro v hv
        subst hv
        repeat (first | (refine Grow.intro [] rfl rfl ?_) | (refine Grow.turn rfl rfl ?_) | (refine Grow.auto rfl rfl ?_) | (refine sd ?_))
        refine Call.pure cM rfl ?_ ?_
        · exact fc
        intro v hv
        subst hv
        repeat (first | (refine Grow.intro [] rfl rfl ?_) | (refine Grow.turn rfl rfl ?_) | (refine Grow.auto rfl rfl ?_) | (refine sd ?_))
        refine Call.pure cB rfl ?_ ?_
        · exact fc
        intro v hv
        subst hv
        repeat (first | (refine Grow.intro [] rfl rfl ?_) | (refine Grow.turn rfl rfl ?_) | (refine Grow.auto rfl rfl ?_) | (refine sd ?_))
        refine Ret.intro (.a8 B) [] [] rfl ?_ rfl rfl ?_ rfl ?_ rfl
        · exact fc
        · exact fc
        · exact fc
      · have hw:¬ w = UInt8.ofNat 1:=hw
        have f:=f2 hw
        rw [bytL_eq] at f
        have cI:=fn31 r.az n2
        have lI:=(invL_lb r.az).1
        have cM:=fn30 r.ax (invL r.az) n1 lI
        have lM:=(mulL_lb r.ax (invL r.az)).1
        have cB:=fnBytesF (mulL r.ax (invL r.az)) lM
        have lF:=ladB_length c u
        rw [f] at cB
        generalize ladB c u = B at *
        generalize mulL r.ax (invL r.az) = Y at *
        generalize invL r.az = Z at *
        repeat (refine sd ?_)
        refine Draw.intro [[],[0],[],[2],[2,3],[0,1,2,3,4],[0,1,2,3,4,5],[0,1,2,3,4,5,6]] [0,1,2,3,4,5,6,7] (by kernel_rfl) ?_
        repeat (first | (refine Grow.intro [] rfl rfl ?_) | (refine Grow.turn rfl rfl ?_) | (refine Grow.auto rfl rfl ?_) | (refine sd ?_))
        refine Call.pure cI rfl ?_ ?_
        · exact fc
        intro v hv
        subst hv
        repeat (first | (refine Grow.intro [] rfl rfl ?_) | (refine Grow.turn rfl rfl ?_) | (refine Grow.auto rfl rfl ?_) | (refine sd ?_))
        refine Call.pure cM rfl ?_ ?_
        · exact fc
        intro v hv
        subst hv
        repeat (first | (refine Grow.intro [] rfl rfl ?_) | (refine Grow.turn rfl rfl ?_) | (refine Grow.auto rfl rfl ?_) | (refine sd ?_))
        refine Call.pure cB rfl ?_ ?_
        · exact fc
        intro v hv
        subst hv
        repeat (first | (refine Grow.intro [] rfl rfl ?_) | (refine Grow.turn rfl rfl ?_) | (refine Grow.auto rfl rfl ?_) | (refine sd ?_))
        refine Ret.intro (.a8 B) [] [] rfl ?_ rfl rfl ?_ rfl ?_ rfl
        · exact fc
        · exact fc
        · exact fc
  · rintro ⟨k,s,l⟩ hI
    refine Cut.intro (σ:=Unit) (fun _=>True) (fun _=>(laT (k,s,l),laM c u (k,s,l))) () trivial (Le.intro [] rfl ?_ rfl ?_ rfl) ?_
    · exact fc
    · exact fc
    rintro - -
    obtain ⟨⟨b1,b2,b3,b4⟩,hk,hs⟩:=(⟨la_at c u _ hI,hI.1,hI.2⟩:LL.B _∧_∧_)
    unfold laT laM
    simp only at hk hs b1 b2 b3 b4
    have l1:=b1.1
    have l2:=b2.1
    have l3:=b3.1
    have l4:=b4.1
    have e0:((254 - (k:Int)) / 8).toNat = (254 - k) / 8:=by omega
    have e1:((254 - (k:Int)) % 8).toNat = (254 - k) % 8:=by omega
    have hn:ladL (ofL u) c (k + 1) = (stpL (ofL u) (s.turn l (bitU c (254 - k))),bitU c (254 - k)):=by show (stpL (ofL u) ((ladL (ofL u) c k).1.turn (ladL (ofL u) c k).2 (bitU c (254 - k))),bitU c (254 - k)) = _;rw [hs]
    have hbit:bitU c (254 - k) = shr8 (c.getD ((254 - k) / 8) 0) ((254 - k) % 8) &&& UInt8.ofNat 1:=rfl
    repeat (refine Side.intro (by repeat' (first | (show AllP _;first | exact trivial | refine AllP.app ?_ ?_ | refine AllP.appd ?_ ?_ | refine AllP.cons ?_ ?_) | with_reducible rfl | with_reducible assumption | omega | (simp only [Nat.zero_add,e0,e1,rng,Ix.val,addQ_eq,addI,szs] <;> omega) | (simp only [Nat.zero_add,e0,e1,rng,Ix.val,Int.toNat_natCast,mulE_eq,addQ_eq,addI,Option.getD_none,Option.getD_some,List.length_take,List.length_drop,List.length_append,List.length_set,List.length_replicate,szs, *] <;> omega) | (simp only [Ix.val];with_reducible assumption) | exact UInt8.toNat_lt _ | (apply Eq.trans;(with_reducible assumption);exact rfl) | exact rfl | exact fun _ _=>rfl)) ?_)
    refine Join.intro (σ:=Unit) (fun _=>True) (fun _=>([(2,.ptr 2 0 none),(4,.ptr 4 0 none),(6,.ptr 6 0 none),(7,.ptr 7 0 none),(8,.ptr 8 0 none),(10,.i .i64 (254 - (k:Int))),(11,.u8 (bitU c (254 - k)))],
      [(2,.mem true 0 [(32,.a8 c)]),(4,.mem true 0 [(32,.a8 (List.replicate 32 0))]),(6,.mem true 0 [(5,.a64 (ofL u))]),(7,.mem true 0 [(5,.a64 (s.turn l (bitU c (254 - k))).ax),(5,.a64 (s.turn l (bitU c (254 - k))).az)]),
       (8,.mem true 0 [(5,.a64 (s.turn l (bitU c (254 - k))).bx),(5,.a64 (s.turn l (bitU c (254 - k))).bz)])])) ?_ ?_
    · refine Branch.intro (fun hb=>?_) (fun hb=>?_)
      · have hb:¬ shr8 (c.getD ((254 - (k:Int)) / 8).toNat 0) ((254 - (k:Int)) % 8).toNat &&& UInt8.ofNat 1 = l:=hb
        rw [e0,e1,← hbit] at hb
        have ht:s.turn l (bitU c (254 - k)) = ⟨s.bx,s.bz,s.ax,s.az⟩:=by unfold LL.turn;rw [if_neg hb];rfl
        rw [ht]
        repeat (refine Side.intro (by repeat' (first | (show AllP _;first | exact trivial | refine AllP.app ?_ ?_ | refine AllP.appd ?_ ?_ | refine AllP.cons ?_ ?_) | with_reducible rfl | with_reducible assumption | omega | (simp only [Nat.zero_add,e0,e1,rng,Ix.val,addQ_eq,addI,szs] <;> omega) | (simp only [Nat.zero_add,e0,e1,rng,Ix.val,Int.toNat_natCast,mulE_eq,addQ_eq,addI,Option.getD_none,Option.getD_some,List.length_take,List.length_drop,List.length_append,List.length_set,List.length_replicate,szs, *] <;> omega) | (simp only [Ix.val];with_reducible assumption) | exact UInt8.toNat_lt _ | (apply Eq.trans;(with_reducible assumption);exact rfl) | exact rfl | exact fun _ _=>rfl)) ?_)
        refine ⟨(),trivial,Le.intro [] rfl ?_ rfl ?_ rfl⟩
        · repeat' (first | (show AllP _;first | exact trivial | refine AllP.app ?_ ?_ | refine AllP.appd ?_ ?_ | refine AllP.cons ?_ ?_) | with_reducible rfl | with_reducible assumption | omega | (simp only [Nat.zero_add,e0,e1,rng,Ix.val,addQ_eq,addI,szs] <;> omega) | (simp only [Nat.zero_add,e0,e1,rng,Ix.val,Int.toNat_natCast,mulE_eq,addQ_eq,addI,Option.getD_none,Option.getD_some,List.length_take,List.length_drop,List.length_append,List.length_set,List.length_replicate,szs, *] <;> omega) | (simp only [Ix.val];with_reducible assumption) | exact UInt8.toNat_lt _ | (apply Eq.trans;(with_reducible assumption);exact rfl) | exact rfl | exact fun _ _=>rfl)
        · repeat' (first | (show AllP _;first | exact trivial | refine AllP.app ?_ ?_ | refine AllP.appd ?_ ?_ | refine AllP.cons ?_ ?_) | with_reducible rfl | with_reducible assumption | omega | (simp only [Nat.zero_add,e0,e1,rng,Ix.val,addQ_eq,addI,szs] <;> omega) | (simp only [Nat.zero_add,e0,e1,rng,Ix.val,Int.toNat_natCast,mulE_eq,addQ_eq,addI,Option.getD_none,Option.getD_some,List.length_take,List.length_drop,List.length_append,List.length_set,List.length_replicate,szs, *] <;> omega) | (simp only [Ix.val];with_reducible assumption) | exact UInt8.toNat_lt _ | (apply Eq.trans;(with_reducible assumption);exact rfl) | exact rfl | exact fun _ _=>rfl)
      · have hb:¬ ¬ shr8 (c.getD ((254 - (k:Int)) / 8).toNat 0) ((254 - (k:Int)) % 8).toNat &&& UInt8.ofNat 1 = l:=hb
        rw [e0,e1,← hbit] at hb
        have ht:s.turn l (bitU c (254 - k)) = s:=by unfold LL.turn;rw [if_pos (Classical.not_not.1 hb)]
        rw [ht]
        repeat (refine Side.intro (by repeat' (first | (show AllP _;first | exact trivial | refine AllP.app ?_ ?_ | refine AllP.appd ?_ ?_ | refine AllP.cons ?_ ?_) | with_reducible rfl | with_reducible assumption | omega | (simp only [Nat.zero_add,e0,e1,rng,Ix.val,addQ_eq,addI,szs] <;> omega) | (simp only [Nat.zero_add,e0,e1,rng,Ix.val,Int.toNat_natCast,mulE_eq,addQ_eq,addI,Option.getD_none,Option.getD_some,List.length_take,List.length_drop,List.length_append,List.length_set,List.length_replicate,szs, *] <;> omega) | (simp only [Ix.val];with_reducible assumption) | exact UInt8.toNat_lt _ | (apply Eq.trans;(with_reducible assumption);exact rfl) | exact rfl | exact fun _ _=>rfl)) ?_)
        refine ⟨(),trivial,Le.intro [] rfl ?_ rfl ?_ rfl⟩
        · repeat' (first | (show AllP _;first | exact trivial | refine AllP.app ?_ ?_ | refine AllP.appd ?_ ?_ | refine AllP.cons ?_ ?_) | with_reducible rfl | with_reducible assumption | omega | (simp only [Nat.zero_add,e0,e1,rng,Ix.val,addQ_eq,addI,szs] <;> omega) | (simp only [Nat.zero_add,e0,e1,rng,Ix.val,Int.toNat_natCast,mulE_eq,addQ_eq,addI,Option.getD_none,Option.getD_some,List.length_take,List.length_drop,List.length_append,List.length_set,List.length_replicate,szs, *] <;> omega) | (simp only [Ix.val];with_reducible assumption) | exact UInt8.toNat_lt _ | (apply Eq.trans;(with_reducible assumption);exact rfl) | exact rfl | exact fun _ _=>rfl)
        · repeat' (first | (show AllP _;first | exact trivial | refine AllP.app ?_ ?_ | refine AllP.appd ?_ ?_ | refine AllP.cons ?_ ?_) | with_reducible rfl | with_reducible assumption | omega | (simp only [Nat.zero_add,e0,e1,rng,Ix.val,addQ_eq,addI,szs] <;> omega) | (simp only [Nat.zero_add,e0,e1,rng,Ix.val,Int.toNat_natCast,mulE_eq,addQ_eq,addI,Option.getD_none,Option.getD_some,List.length_take,List.length_drop,List.length_append,List.length_set,List.length_replicate,szs, *] <;> omega) | (simp only [Ix.val];with_reducible assumption) | exact UInt8.toNat_lt _ | (apply Eq.trans;(with_reducible assumption);exact rfl) | exact rfl | exact fun _ _=>rfl)
    rintro - -
    have hB:=LL.turn_B (⟨b1,b2,b3,b4⟩:LL.B s) l (bitU c (254 - k))
    have hsb:=stpL_B (ofL u) (s.turn l (bitU c (254 - k)))
    generalize s.turn l (bitU c (254 - k)) = t at *
    clear hbit e0 e1
    generalize bitU c (254 - k) = w at *
    obtain ⟨t1,t2,t3,t4⟩:=hB
    have cS:=fn28 t.ax t.az t.bx t.bz (ofL u) t1.1 t2.1 t3.1 t4.1 lu
    have ett:(⟨t.ax,t.az,t.bx,t.bz⟩:LL) = t:=rfl
    rw [ett] at cS
    obtain ⟨r,hr⟩:∃ r,stpL (ofL u) t = r:=⟨_,rfl⟩
    rw [hr] at cS hsb hn
    obtain ⟨r1,r2,r3,r4⟩:=hsb
    have n1:=r1.1
    have n2:=r2.1
    have n3:=r3.1
    have n4:=r4.1
    have q1:=t1.1
    have q2:=t2.1
    have q3:=t3.1
    have q4:=t4.1
    repeat (refine sd ?_)
    refine Call.pure cS rfl ?_ ?_
    · exact fc
    intro v hv
    subst hv
    repeat (first | (refine Grow.intro [] rfl rfl ?_) | (refine Grow.turn rfl rfl ?_) | (refine Grow.auto rfl rfl ?_) | (refine sd ?_))
    refine Branch.intro (fun hp=>?_) (fun hp=>?_)
    · have hp:0 < 254 - (k:Int):=hp
      repeat (refine sd ?_)
      refine ⟨rfl,(k + 1,r,w),⟨by show k + 1 ≤ 254;omega,hn⟩,(by show 255 - (k + 1) < 255 - k;omega),Le.intro [] rfl ?_ rfl ?_ rfl⟩
      · exact fc
      · exact fc
    · have hp:¬ 0 < 254 - (k:Int):=hp
      obtain rfl:k = 254:=by omega
      obtain ⟨f1,f2⟩:=ladL_end hn
      repeat (refine sd ?_)
      refine Branch.intro (fun hw=>?_) (fun hw=>?_)
      · have hw:w = UInt8.ofNat 1:=hw
        have f:=f1 hw
        rw [bytL_eq] at f
        have cI:=fn31 r.bz n4
        have lI:=(invL_lb r.bz).1
        have cM:=fn30 r.bx (invL r.bz) n3 lI
        have lM:=(mulL_lb r.bx (invL r.bz)).1
        have cB:=fnBytesF (mulL r.bx (invL r.bz)) lM
        have lF:=ladB_length c u
        rw [f] at cB
        generalize ladB c u = B at *
        generalize mulL r.bx (invL r.bz) = Y at *
        generalize invL r.bz = Z at *
        repeat (refine sd ?_)
        refine Draw.intro [[],[0],[],[2],[2,3],[0,1,2,3,4],[0,1,2,3,4,5],[0,1,2,3,4,5,6]] [0,1,2,3,4,5,6,7] (by kernel_rfl) ?_
        repeat (first | (refine Grow.intro [] rfl rfl ?_) | (refine Grow.turn rfl rfl ?_) | (refine Grow.auto rfl rfl ?_) | (refine sd ?_))
        refine Call.pure cI rfl ?_ ?_
        · exact fc
        intro v hv
        subst hv
        repeat (first | (refine Grow.intro [] rfl rfl ?_) | (refine Grow.turn rfl rfl ?_) | (refine Grow.auto rfl rfl ?_) | (refine sd ?_))
        refine Call.pure cM rfl ?_ ?_
        · exact fc
        intro v hv
        subst hv
        repeat (first | (refine Grow.intro [] rfl rfl ?_) | (refine Grow.turn rfl rfl ?_) | (refine Grow.auto rfl rfl ?_) | (refine sd ?_))
        refine Call.pure cB rfl ?_ ?_
        · exact fc
        intro v hv
        subst hv
        repeat (first | (refine Grow.intro [] rfl rfl ?_) | (refine Grow.turn rfl rfl ?_) | (refine Grow.auto rfl rfl ?_) | (refine sd ?_))
        refine Ret.intro (.a8 B) [] [] rfl ?_ rfl rfl ?_ rfl ?_ rfl
        · exact fc
        · exact fc
        · exact fc
      · have hw:¬ w = UInt8.ofNat 1:=hw
        have f:=f2 hw
        rw [bytL_eq] at f
        have cI:=fn31 r.az n2
        have lI:=(invL_lb r.az).1
        have cM:=fn30 r.ax (invL r.az) n1 lI
        have lM:=(mulL_lb r.ax (invL r.az)).1
        have cB:=fnBytesF (mulL r.ax (invL r.az)) lM
        have lF:=ladB_length c u
        rw [f] at cB
        generalize ladB c u = B at *
        generalize mulL r.ax (invL r.az) = Y at *
        generalize invL r.az = Z at *
        repeat (refine sd ?_)
        refine Draw.intro [[],[0],[],[2],[2,3],[0,1,2,3,4],[0,1,2,3,4,5],[0,1,2,3,4,5,6]] [0,1,2,3,4,5,6,7] (by kernel_rfl) ?_
        repeat (first | (refine Grow.intro [] rfl rfl ?_) | (refine Grow.turn rfl rfl ?_) | (refine Grow.auto rfl rfl ?_) | (refine sd ?_))
        refine Call.pure cI rfl ?_ ?_
        · exact fc
        intro v hv
        subst hv
        repeat (first | (refine Grow.intro [] rfl rfl ?_) | (refine Grow.turn rfl rfl ?_) | (refine Grow.auto rfl rfl ?_) | (refine sd ?_))
        refine Call.pure cM rfl ?_ ?_
        · exact fc
        intro v hv
        subst hv
        repeat (first | (refine Grow.intro [] rfl rfl ?_) | (refine Grow.turn rfl rfl ?_) | (refine Grow.auto rfl rfl ?_) | (refine sd ?_))
        refine Call.pure cB rfl ?_ ?_
        · exact fc
        intro v hv
        subst hv
        repeat (first | (refine Grow.intro [] rfl rfl ?_) | (refine Grow.turn rfl rfl ?_) | (refine Grow.auto rfl rfl ?_) | (refine sd ?_))
        refine Ret.intro (.a8 B) [] [] rfl ?_ rfl rfl ?_ rfl ?_ rfl
        · exact fc
        · exact fc
        · exact fc
set_option maxRecDepth 100000 in
theorem fn19 (sec:List UInt8) (h1:sec.length = 32):Sx.Fn Γ.P 19 [.a8 sec] [] (fun v _=>v = .a8 (ladB (clB sec) (UInt8.ofNat 9 :: List.replicate 31 0))):=by
 have cM:=fn16 sec (UInt8.ofNat 9 :: List.replicate 31 0) h1 rfl
 have lF:=ladB_length (clB sec) (UInt8.ofNat 9 :: List.replicate 31 0)
 generalize ladB (clB sec) (UInt8.ofNat 9 :: List.replicate 31 0) = B at *
 refine fn_of (Γ:=Γ) (fn:=Try.f19) rfl rfl rfl rfl ?_
 repeat (refine sd ?_)
 refine Call.pure cM rfl ?_ ?_
 ·exact fc
 intro v hv
 subst hv
 repeat (first | (refine Grow.intro [] rfl rfl ?_) | (refine Grow.turn rfl rfl ?_) | (refine Grow.auto rfl rfl ?_) | (refine sd ?_))
 refine Ret.intro (.a8 B) [] [] rfl ?_ rfl rfl ?_ rfl ?_ rfl
 ·exact fc
 ·exact fc
 ·exact fc
end Go.Proofs.Ytimbdhpchlakfaa
