/- What the functions of the program compute. No condition. -/
import Derived.Test.YtpkllkbmoodniaaHwRa5ToRa6
set_option linter.unusedSimpArgs false
set_option linter.unusedVariables false
namespace Go.Proofs.Ytpkllkbmoodniaa
open Go Go.Sx
structure Se where
 id:List UInt8
 root:List UInt8
 mine:List UInt8
 hs:Bool
 sk:List UInt8
 sn:UInt16
 pv:UInt16
 th:List UInt8
 hr:Bool
 rk:List UInt8
 rn:UInt16
 fi:Bool
 ag:List UInt8
 sg:List UInt8
 ba:List UInt8
 oc:UInt16
 kp:List Kp
structure Se.OK (x:Se):Prop where
 id:x.id.length = 32
 root:x.root.length = 32
 mine:x.mine.length = 32
 sk:x.sk.length = 32
 th:x.th.length = 32
 rk:x.rk.length = 32
 ag:x.ag.length = 32
 sg:x.sg.length = 32
 ba:x.ba.length = 32
 kp:∀ k ∈ x.kp,KpOK k
def seL (x:Se) (k:SV):List (Nat × SV):=[(32,.a8 x.id),(32,.a8 x.root),(32,.a8 x.mine),(1,.bool (x.hs = true)),(32,.a8 x.sk),(1,.u16 x.sn),(1,.u16 x.pv),(32,.a8 x.th),(1,.bool (x.hr = true)),(32,.a8 x.rk),(1,.u16 x.rn),(1,.bool (x.fi = true)),(32,.a8 x.ag),(32,.a8 x.sg),(32,.a8 x.ba),(1,.u16 x.oc),(1,k)]
def tuA (T:List Te) (x:Se):List Te × Nat:=agr T T.length x.mine x.th
def tuT (T:List Te) (x:Se):List Te:=roT (tuA T x).1 x.root (kyB (tuA T x).2)
def tuR (T:List Te) (x:Se):List UInt8:=kyB (roR (tuA T x).1 x.root (kyB (tuA T x).2))
def tuK (T:List Te) (x:Se):List UInt8:=kyB (roC (tuA T x).1 x.root (kyB (tuA T x).2))
attribute [irreducible] tuA
theorem tuA_eq (T:List Te) (x:Se):tuA T x = agr T T.length x.mine x.th:=by unfold tuA;rfl
theorem tuA_info {T:List Te} (hTv:∀ y ∈ T,Valid y.1 y.2) {x:Se} (hm:x.mine.length = 32) (ht:x.th.length = 32):(∀ y ∈ (tuA T x).1,Valid y.1 y.2)∧(tuA T x).1.length ≤ T.length + 1:=by
 obtain ⟨k,p,q,h1,h2,h3,h4,h5⟩:=agr_mk T T.length hm ht
 rw [tuA_eq,h5]
 exact ⟨mk2_valid hTv k p q,(mk2_len T k p q).2⟩
set_option maxRecDepth 100000 in
set_option maxHeartbeats 4000000 in
theorem fn61 (T:List Te) (N c:Nat) (hT:T.length = N) (hN:N ≤ 40000) (hNc:N ≤ c) (hTv:∀ x ∈ T,Valid x.1 x.2) (x:Se) (hx:x.OK) (k kc:Nat) (kl:List Kp) :
  Sx.Fn Γ.P 61 [.agg [(1,.ptr 1000 0 none)],.ptr 1007 0 none] ((1007,.mem true 0 (seL x (.isl 0 k 65 [(kc * 65,.arr kc 65 (kpF kl))]))) :: tbM N c T 1001)
  (fun v M=>∃ n' c',(tuT T x).length = n'∧n' ≤ c'∧v = .tup [.agg [(32,.a8 (tuK T x)),(1,.u16 0)],.i .i64 0]∧M = (1001,.dead) :: (1007,.mem true 0 (seL { x with root:=tuR T x } (.isl 0 k 65 [(kc * 65,.arr kc 65 (kpF kl))]))) :: tbM n' c' (tuT T x) 1005):=by
 have hA:=fnAgreeX T N c hT (by omega) hNc hTv x.mine x.th hx.mine hx.th
 obtain ⟨hAv,hAl⟩:=tuA_info hTv hx.mine hx.th
 have eA:=tuA_eq T x
 rw [hT] at eA
 rw [← eA] at hA
 unfold tuT tuR tuK
 obtain ⟨A,hAe⟩:∃ A,(tuA T x).1 = A:=⟨_,rfl⟩
 obtain ⟨o,hoe⟩:∃ o,(tuA T x).2 = o:=⟨_,rfl⟩
 rw [hAe,hoe] at hA
 rw [hAe] at hAv hAl
 rw [hAe,hoe]
 have hko:=kyB_length o
 have hkR:=kyB_length (roR A x.root (kyB o))
 have hkC:=kyB_length (roC A x.root (kyB o))
 obtain ⟨h1,h2,h3,h4,h5,h6,h7,h8,h9,_⟩:=hx
 unfold tbM at hA
 unfold tbM seL
 refine fn_cut [1000002,1000005] (Γ:=Γ) (fn:=Try.f61) rfl rfl rfl rfl ?_
 repeat (refine sd ?_)
 refine Join.intro (σ:=Nat × Nat) (fun s=>A.length = s.1∧s.1 ≤ s.2) (fun s=>([(1,.ptr 1007 0 none),(2,.ptr 202 0 none),(4,.ptr 204 0 none),(5,.i .i64 0),(6,.ptr 206 0 none),(7,.tt)],[(202,.mem true 0 [(1,.ptr 1000 0 none)]),(204,.mem true 0 [(32,.a8 (List.replicate 32 0)),(1,.u16 0)]),(206,.mem true 0 [(32,.a8 (kyB o))]),
  (1007,.mem true 0 (seL x (.isl 0 k 65 [(kc * 65,.arr kc 65 (kpF kl))]))),(1000,.mem true 0 [(1,.sl 211 0 0 s.1 s.2),(1,.mp 1002)]),(1001,.dead),(211,.mem true (mulE (s.2 - s.1) 3) [(s.1 * 3,.arr s.1 3 (ttF A))]),(1002,.map (.si (mpL A)))])) ?_ ?_
 ·refine Draw.intro [[],[],[1],[1,2],[1,2,3],[],[5],[5,6],[5,6,7],[0,1,2,3,4,5,6,7,8],[0,1,2,3,4,5,6,7,8,9],[0,1,2,3,4,5,6,7,8,9,10],[0,1,2,3,4,5,6,7,8,9,10],[],[0,1,2,3,4,5,6,7,8,9,10,11,13],[0,1,2,3,4,5,6,7,8,9,10,11,12,13,14],[]] [0,1,2,3,4,5,6,7,8,13,9,10,11,12,14,15] (by kernel_rfl) ?_
  repeat (refine sd ?_)
  refine ⟨?_,?_⟩
  all_goals
   repeat (refine sd ?_)
   refine Call.intro hA [(1000,(1000,0,none)),(1001,(1001,0,none)),(1002,(1002,0,none)),(1005,(305,0,none))] rfl ?_ rfl ?_ rfl ?_
   ·exact fc
   ·exact fc
   rintro v M' ⟨n',c',hn',hnc',rfl,rfl⟩
   dsimp only [putT,afterM,newEnt,ren,renA,renS,renL,look,getM,getT,ev,evL,ofVal,cond_true,cond_false,Nat.beq_eq,act,isPar,ownPar,Ent.isOwn]
   repeat (refine sd ?_)
   refine ⟨(n',c'),⟨hn',hnc'⟩,Le.intro [(202,(2,0,none)),(204,(4,0,none)),(206,(6,0,none)),(211,(305,0,none))] rfl ?_ rfl ?_ rfl⟩
   ·exact fc
   ·exact fc
 rintro ⟨n1,c1⟩ ⟨hn1,hc1⟩
 have hn1:A.length = n1:=hn1
 have hc1:n1 ≤ c1:=hc1
 have hRt:=fnRootF A n1 c1 hn1 (by omega) hc1 hAv x.root (kyB o) h2 hko
 unfold tbM at hRt
 repeat (first | (refine Branch.intro (fun _=>?_) (fun hn=>absurd rfl hn)) | (refine Branch.intro (fun hn=>(by with_reducible exact False.elim hn)) (fun _=>?_)) | (refine Branch.intro (fun _=>?_) (fun hn=>(by with_reducible exact absurd trivial hn))) | (refine Branch.intro (fun hn=>(by with_reducible exact absurd trivial hn)) (fun _=>?_)) | (refine Branch.intro (fun hn=>(by with_reducible exact absurd rfl hn)) (fun _=>?_)) | (refine Branch.intro (fun _=>?_) (fun hn=>(by with_reducible exact absurd Iff.rfl hn))) | (refine Branch.intro (fun hn=>(by with_reducible exact absurd Iff.rfl hn)) (fun _=>?_)) | (refine sd ?_))
 refine Join.intro (σ:=Nat × Nat) (fun s=>(roT A x.root (kyB o)).length = s.1∧s.1 ≤ s.2) (fun s=>([(1,.ptr 1007 0 none),(2,.ptr 202 0 none),(4,.ptr 204 0 none),(5,.i .i64 0),(7,.tt),(8,.ptr 208 0 none),(9,.ptr 209 0 none)],[(202,.mem true 0 [(1,.ptr 1000 0 none)]),(204,.mem true 0 [(32,.a8 (List.replicate 32 0)),(1,.u16 0)]),(208,.mem true 0 [(32,.a8 (kyB (roR A x.root (kyB o))))]),(209,.mem true 0 [(32,.a8 (kyB (roC A x.root (kyB o))))]),
  (1007,.mem true 0 (seL x (.isl 0 k 65 [(kc * 65,.arr kc 65 (kpF kl))]))),(1000,.mem true 0 [(1,.sl 212 0 0 s.1 s.2),(1,.mp 1002)]),(1001,.dead),(212,.mem true (mulE (s.2 - s.1) 3) [(s.1 * 3,.arr s.1 3 (ttF (roT A x.root (kyB o))))]),(1002,.map (.si (mpL (roT A x.root (kyB o)))))])) ?_ ?_
 ·refine Draw.intro [[],[],[1],[1,2],[1,2,3],[],[0,1,2,3,4,5],[0,1,2,3,4,5,6],[0,1,2,3,4,5,6,7],[0,1,2,3,4,5,6,7],[0,1,2,3,4,5,6,7],[],[],[0,1,2,3,4,5,6,7,8,11,12],[0,1,2,3,4,5,6,7,8,9,11,12,13],[0,1,2,3,4,5,6,7,8,9,10,11,12,13,14],[6]] [0,1,2,3,4,5,11,12,6,7,8,9,10,13,14,15] (by kernel_rfl) ?_
  repeat (refine sd ?_)
  refine ⟨⟨?_,?_⟩,?_,?_⟩
  all_goals
   repeat (refine sd ?_)
   refine Call.intro hRt [(1000,(1000,0,none)),(1001,(211,0,none)),(1002,(1002,0,none)),(1005,(315,0,none))] rfl ?_ rfl ?_ rfl ?_
   ·exact fc
   ·exact fc
   rintro v M' ⟨n',c',hn',hnc',rfl,rfl⟩
   dsimp only [putT,afterM,newEnt,ren,renA,renS,renL,look,getM,getT,ev,evL,ofVal,cond_true,cond_false,Nat.beq_eq,act,isPar,ownPar,Ent.isOwn]
   repeat (refine sd ?_)
   refine ⟨(n',c'),⟨hn',hnc'⟩,Le.intro [(202,(202,0,none)),(204,(204,0,none)),(208,(8,0,none)),(209,(9,0,none)),(212,(315,0,none))] rfl ?_ rfl ?_ rfl⟩
   ·exact fc
   ·exact fc
 rintro ⟨n2,c2⟩ ⟨hn2,hc2⟩
 have hn2:(roT A x.root (kyB o)).length = n2:=hn2
 have hc2:n2 ≤ c2:=hc2
 repeat (first | (refine Branch.intro (fun _=>?_) (fun hn=>absurd rfl hn)) | (refine Branch.intro (fun hn=>(by with_reducible exact False.elim hn)) (fun _=>?_)) | (refine Branch.intro (fun _=>?_) (fun hn=>(by with_reducible exact absurd trivial hn))) | (refine Branch.intro (fun hn=>(by with_reducible exact absurd trivial hn)) (fun _=>?_)) | (refine Branch.intro (fun hn=>(by with_reducible exact absurd rfl hn)) (fun _=>?_)) | (refine Branch.intro (fun _=>?_) (fun hn=>(by with_reducible exact absurd Iff.rfl hn))) | (refine Branch.intro (fun hn=>(by with_reducible exact absurd Iff.rfl hn)) (fun _=>?_)) | (refine sd ?_))
 refine Ret.intro (.tup [.agg [(32,.a8 (kyB (roC A x.root (kyB o)))),(1,.u16 0)],.i .i64 0]) ((1001,.dead) :: (1007,.mem true 0 (seL { x with root:=kyB (roR A x.root (kyB o)) } (.isl 0 k 65 [(kc * 65,.arr kc 65 (kpF kl))]))) :: tbM n2 c2 (roT A x.root (kyB o)) 1005) [(1005,(212,0,none))] rfl ?_ ⟨n2,c2,hn2,hc2,rfl,rfl⟩ rfl ?_ rfl ?_ rfl
 ·exact fc
 ·exact fc
 ·exact fc
end Go.Proofs.Ytpkllkbmoodniaa
