/- A symbolic executor over the code of this model: part 7. No condition. -/
import Derived.Test.YtoaaplgjacjlpaaHx6
import Derived.ProofKit
import Derived.OpenShut
import Derived.RangeFuncNested
import Derived.RangeFuncBound
import Derived.RangeFuncCalls
import Derived.RangeFuncLeaves
import Derived.OrdersIn
import Derived.TacticsIn
set_option linter.unusedSimpArgs false
set_option linter.unusedVariables false
namespace Go.Sx
open Go Go.ChangeShapes Go.WideShapes Go.ChangeAt Go.RowKit

section
variable {H : Type} {enc : TypeId × Value → H} {P : Program} {w : World} {base : Nat} {sp : Nat → Bool} {held : Bool}

theorem w8_of_wf {n : Int} (h : (Lit.int .u8 n).wf = true) : ∃ x : UInt8, Value.int .u8 n = w8 x := by
  have := bounds_u8 h
  refine ⟨UInt8.ofNat n.toNat, ?_⟩
  unfold w8
  rw [UInt8.toNat_ofNat']
  congr 1
  omega

theorem w16_of_wf {n : Int} (h : (Lit.int .u16 n).wf = true) : ∃ x : UInt16, Value.int .u16 n = w16 x := by
  have := bounds_u16 h
  refine ⟨UInt16.ofNat n.toNat, ?_⟩
  unfold w16
  rw [UInt16.toNat_ofNat']
  congr 1
  omega

theorem map_of_all {α : Type} (f : α → Value) : ∀ (cs : List Value), (∀ (i : Nat), i < cs.length → ∃ x : α, cs[i]? = some (f x)) → ∃ l : List α, cs = l.map f
  | [], _ => ⟨[], rfl⟩
  | c :: r, h => by
    obtain ⟨x, hx⟩ := h 0 (by simp)
    obtain ⟨l, hl⟩ := map_of_all f r (fun i hi => by simpa using h (i + 1) (by simpa using hi))
    refine ⟨x :: l, ?_⟩
    simp only [List.getElem?_cons_zero, Option.some.injEq] at hx
    rw [hx, hl]; rfl

theorem take_one {cs : List Value} {i : Nat} {v : Value} (h : (cs.drop i).take 1 = [v]) : cs[i]? = some v := by
  have e : ((cs.drop i).take 1)[0]? = some v := by rw [h]; rfl
  simpa using e

theorem trod_arr8 {t e n : Nat} {fuel : Nat} {cs : List Value} {x : DataW H × List MemPlace} (ht : P.underlying t = some (.array n e)) (he : P.underlying e = some (.int .u8)) (hc : P.cellsOf e = 1) (hct : P.cellsOf t = n)
    (h : DataW.trod enc P w base sp held fuel t cs = some x) : ∃ l : List UInt8, l.length = n ∧ cs = l.map w8 := by
  obtain ⟨xs, m, _, _, hl, hxs, hel⟩ := DataW.trod_array ht h
  rw [hct] at hl
  have hall : ∀ i, i < cs.length → ∃ x : UInt8, cs[i]? = some (w8 x) := by
    intro i hi
    have := hel i (by omega)
    rw [hc, Nat.mul_one, List.getElem?_eq_getElem (by omega)] at this
    obtain ⟨k, hk, _, hw⟩ := DataW.trod_int he this
    obtain ⟨x, hx⟩ := w8_of_wf hw
    exact ⟨x, by rw [← hx]; exact take_one hk⟩
  obtain ⟨l, hl'⟩ := map_of_all w8 cs hall
  exact ⟨l, by rw [← hl, hl']; simp, hl'⟩

/-- A slice that came in. -/
theorem trod_sl {t e : Nat} {fuel : Nat} {cs : List Value} {x : DataW H × List MemPlace} (ht : P.underlying t = some (.slice e)) (hpos : 0 < P.cellsOf e)
    (h : DataW.trod enc P w base (fun _ => true) held fuel t cs = some x) :
    cs = [.slice none 0 0] ∨ ∃ (a : Addr) (len cap b o : Nat), cs = [.slice (some a) len cap] ∧ len ≤ cap ∧ cap ≤ maxLen ∧ (cap ≠ 0 → a = ⟨b, o, none⟩ ∧ b < w.heap.size) ∧
      ∀ i, i < len → ∃ ce fuel y, ce.length = P.cellsOf e ∧ (∀ j, j < P.cellsOf e → w.cell? ⟨b, o + (i * P.cellsOf e + j), none⟩ = ce[j]?) ∧ DataW.trod enc P w base (fun _ => true) held fuel e ce = some y := by
  rcases DataW.trod_slice ht h with ⟨h0, _⟩ | ⟨a, len, cap, elems, rest, n, _, rfl, rfl, hb, hl, hm, hlen, hel, hsp, _⟩
  · exact Or.inl h0
  right
  obtain ⟨hrl, hr⟩ := hsp rfl
  have cellAt : ∀ i, i < cap → ∃ ce y, w.cells? base (a.add (i * P.cellsOf e)) (P.cellsOf e) = some ce ∧ DataW.trod enc P w base (fun _ => true) held n e ce = some y := by
    intro i hi
    by_cases h1 : i < len
    · have := hel i h1
      rw [List.getElem?_eq_getElem (by omega), Option.bind_eq_some_iff] at this
      obtain ⟨ce, h2, h3⟩ := this
      exact ⟨ce, _, h2, h3⟩
    · have := hr (i - len) (by omega)
      rw [List.getElem?_eq_getElem (by omega), Option.bind_eq_some_iff, show len + (i - len) = i by omega] at this
      obtain ⟨ce, h2, h3⟩ := this
      exact ⟨ce, _, h2, h3⟩
  have shape : cap ≠ 0 → a = ⟨a.block, a.off, none⟩ ∧ a.block < w.heap.size := by
    intro hc
    obtain ⟨ce, y, h1, _⟩ := cellAt 0 (by omega)
    obtain ⟨_, hlen, hcell⟩ := World.cells?_some h1
    have g0 := hcell 0 hpos
    rw [List.getElem?_eq_getElem (by omega)] at g0
    have hs := World.cell?_spot g0
    have : a.spot = none := by simpa [Addr.add] using hs
    obtain ⟨b, o, s⟩ := a
    simp only at this
    subst this
    refine ⟨rfl, ?_⟩
    simp only [Nat.zero_mul, Addr.add, if_true] at g0
    unfold World.cell? at g0
    simp only at g0 ⊢
    cases hb : w.heap[b]? with
    | none => rw [hb] at g0; simp at g0
    | some _ => exact (Array.getElem?_eq_some_iff.1 hb).1
  refine ⟨a, len, cap, a.block, a.off, rfl, hl, hm, shape, fun i hi => ?_⟩
  obtain ⟨ce, y, h1, h2⟩ := cellAt i (by omega)
  obtain ⟨_, hlen, hcell⟩ := World.cells?_some h1
  refine ⟨ce, n, y, hlen, fun j hj => ?_, h2⟩
  have := hcell j hj
  rw [(shape (by omega)).1] at this
  rw [add_lit, add_lit] at this
  rw [show a.off + (i * P.cellsOf e + j) = a.off + i * P.cellsOf e + j by omega]
  exact this

theorem list_of_cells {α : Type} (f : α → Value) {b o : Nat} : ∀ (n : Nat), (∀ k, k < n → ∃ x : α, w.cell? ⟨b, o + k, none⟩ = some (f x)) → ∃ l : List α, l.length = n ∧ ∀ j v, (l.map f)[j]? = some v → w.cell? ⟨b, o + j, none⟩ = some v
  | 0, _ => ⟨[], rfl, fun j v h => by simp at h⟩
  | n + 1, h => by
    obtain ⟨l, hl, hc⟩ := list_of_cells f n (fun k hk => h k (by omega))
    obtain ⟨x, hx⟩ := h n (by omega)
    refine ⟨l ++ [x], by simp [hl], fun j v hj => ?_⟩
    by_cases hj' : j < n
    · refine hc j v ?_
      rw [List.map_append, List.getElem?_append_left (by simp [hl, hj'])] at hj
      exact hj
    · have hlt := (List.getElem?_eq_some_iff.1 hj).1
      simp [hl] at hlt
      have : j = n := by omega
      subst this
      rw [List.map_append, List.getElem?_append_right (by simp [hl])] at hj
      simp [hl] at hj
      rw [hx, hj]

end

/-! ## What lies in a world that nobody owns -/

/-- What lies where in a world: to a depth. -/
def immW (w : World) : Nat → Nat → Nat → List (Nat × SV) → Prop
  | 0 => fun _ _ _ => False
  | k + 1 => fun b o ls => (sizeL ls ≠ 0 → b < w.heap.size) ∧ ∃ cs, CellsL ⟨fun _ => False, fun _ => (0, 0), immW w k⟩ ls cs ∧ ∀ j v, cs[j]? = some v → w.cell? ⟨b, o + j, none⟩ = some v

def envW (w : World) (k : Nat) : Env := ⟨fun _ => False, fun _ => (0, 0), immW w k⟩

theorem immW_succ (w : World) : ∀ (k b o : Nat) (ls : List (Nat × SV)), immW w k b o ls → immW w (k + 1) b o ls
  | 0, _, _, _, h => h.elim
  | k + 1, b, o, ls, ⟨h1, cs, h2, h3⟩ => ⟨h1, cs, CellsL.le (ρ := envW w k) (ρ' := envW w (k + 1)) ⟨fun _ (h : False) => h.elim, immW_succ w k⟩ h2, h3⟩

theorem envW_conc (w : World) (k : Nat) : ConcM (envW w k) [] w where
  dom a h := h.elim
  mod a e h := by simp [getM] at h
  sat a e h := by simp [getM] at h
  sep a b e e' h := by simp [getM] at h
  imm b o ls h := by
    cases k with
    | zero => exact h.elim
    | succ k =>
      obtain ⟨h1, cs, h2, h3⟩ := h
      exact ⟨h1, cs, CellsL.le (ρ := envW w k) (ρ' := (envW w (k + 1)).bare) ⟨fun _ (h : False) => h.elim, immW_succ w k⟩ h2, h3⟩
  isep b o _ h := by obtain ⟨a, e, h1, _⟩ := h; simp [getM] at h1

theorem envW_owns (w : World) (k b o : Nat) : ¬ Owns (envW w k) [] b o := by rintro ⟨a, e, h1, _⟩; simp [getM] at h1

section
variable {H : Type} {enc : TypeId × Value → H} {P : Program}
theorem post_of_blocks {f : Func} {s : ChangeSpec} {apart fresh handsOn again : Bool} {W W' : World} {args : Array Value} {v : Value} {ds gs : List (DataW H)} {before pa pv : List MemPlace}
    (hW : DataW.Whole enc P f.params.toList s.vars apart W args.toList ds gs before)
    (hres : ∀ (b : Nat) (sp : Nat → Bool) (hd : Bool), DataW.TrodAll enc P W' b sp hd f.resultTypes.toList (v.resultList f.resultTypes.size) (s.fn H (ds ++ gs)).results [])
    (hargs : ∀ sp : Nat → Bool, (∀ p ∈ before, sp p.block = true) → DataW.TrodAll enc P W' 0 sp true f.params.toList args.toList (s.fn H (ds ++ gs)).args pa)
    (hvars : ∀ sp : Nat → Bool, (∀ p ∈ before, sp p.block = true) → DataW.TrodVars enc P W' sp s.vars (s.fn H (ds ++ gs)).vars pv)
    (hps : before = pa ++ pv) (hos : W'.os = W.os) (hout : W'.output = W.output) (hblk : ∀ b, b < W.heap.size → W'.heap[b]? = W.heap[b]?)
    (hok : ∀ (j : Nat) (t : TypeId) (r : Value), f.resultTypes[j]? = some t → (v.resultList f.resultTypes.size)[j]? = some r → Value.okWide P W' .any 0 t r) :
    s.post enc P f apart fresh handsOn again W args v W' := by
  have hlt : ∀ p ∈ before, p.block < W.heap.size := fun p hp => hW.lt p hp
  have hold : ∀ p ∈ before, (fun b => decide (b < W.heap.size)) p.block = true := fun p hp => by simpa using hlt p hp
  have hkept : W.keptBut W' (· ∈ before) := by
    refine ⟨hos, hout, fun i hi => ?_⟩
    rw [hblk i hi]
    split <;> simp_all
  refine ⟨ds, gs, before, [], pa, pv, hW, hres _ _ _, hargs _ hold, hvars _ hold, World.keptBut_mono (fun p hp => ⟨hp, ?_⟩) hkept, fun _ => ?_⟩
  · rw [hps, List.mem_append] at hp
    exact Or.inr hp
  · obtain ⟨_, _, _, _, _, hz, hn⟩ := hW
    refine ⟨hok, _, _, ([] ++ pa) ++ pv, ⟨[] ++ pa, pv, trodAll_append (hargs _ (fun _ _ => rfl)) (hres _ _ _), hvars _ (fun _ _ => rfl), rfl, ?_, ?_⟩, ?_⟩
    · intro b off hp
      have hin : MemPlace.cell b off ∈ before := by rw [hps]; simpa using hp
      rw [World.frozen?_of_block (w := W) (a := ⟨b, off, none⟩) (hblk b (hlt _ hin))]
      exact hz b off hin
    · intro ha
      have := hn ha
      rw [hps] at this
      simpa using this
    · intro p hp _
      rw [hps]
      simpa using hp
end

/-- A law's contract: nothing is owned at the start, true is returned. -/
theorem law_close {C : Checked} {f : FuncId} {fn : Func} {s : ChangeSpec} {apart fresh handsOn again : Bool} {H : Type} {enc : TypeId × Value → H} {ρ : Env} {M0 : Mm} {svs : List SV} {R : SV → Mm → Prop} {tb : TypeId}
    {W : World} {args : Array Value} {ds gs : List (DataW H)} {before : List MemPlace}
    (hl : laidOutB C.prog = true) (hread : ∀ t ∈ fn.params.toList, C.prog.readableRec t = true ∧ t < C.prog.types.size) (hvars : s.vars = [])
    (hspec : (s.fn H (ds ++ gs)) = { results := [.lit (.bool true)], args := ds }) (hrt : fn.resultTypes = #[tb]) (htb : C.prog.underlying tb = some .bool)
    (hM : ConcM ρ M0 W) (hown : ∀ b o, ¬ Owns ρ M0 b o) (hargs : RelL ρ svs args.toList) (hf : Sx.Fn C.prog f svs M0 R) (htt : ∀ v M, R v M → v = .tt)
    (hW : DataW.Whole enc C.prog fn.params.toList s.vars apart W args.toList ds gs before) :
    Calls C.prog f args W fun e W' => ∃ v, e = .returned v ∧ s.post enc C.prog fn apart fresh handsOn again W args v W' := by
  have hc := hf ρ args.toList W hM hargs
  simp only [Array.toArray_toList] at hc
  refine hc.mono ?_
  rintro e W' ⟨v, x, ρ', M', rfl, h2, h3, _, _, hst⟩
  have hv := htt v M' h3
  subst hv
  have hx : x = .bool true := h2
  subst hx
  have hblk : ∀ b, b < W.heap.size → W'.heap[b]? = W.heap[b]? := fun b hb => hst.blk b hb (hown b)
  have hW0 := hW
  rw [hvars] at hW
  obtain ⟨p, q, hA, hV, rfl, hfz, hnd⟩ := hW
  obtain ⟨rfl, rfl⟩ := trodVars_none hV
  refine ⟨_, rfl, post_of_blocks (pa := p) (pv := []) hW0 ?_ ?_ ?_ rfl hst.os hst.output hblk ?_⟩
  · intro b sp hd
    rw [hspec, hrt]
    exact trodAll_mk1 ⟨1, by simp [DataW.trod, Value.cells, htb]⟩
  · intro sp hsp
    rw [hspec]
    have hlt := hW0.lt
    have go : ∀ {ts : List TypeId} {vs : List Value} {es : List (DataW H)} {ps : List MemPlace}, (∀ t ∈ ts, C.prog.readableRec t = true ∧ t < C.prog.types.size) → (∀ x ∈ ps, x.block < W.heap.size) → (∀ x ∈ ps, sp x.block = true) →
        DataW.TrodAll enc C.prog W 0 (fun _ => true) true ts vs es ps → DataW.TrodAll enc C.prog W' 0 sp true ts vs es ps := by
      intro ts
      induction ts with
      | nil =>
        intro vs es ps _ _ _ h
        obtain ⟨rfl, rfl, rfl⟩ := trodAll_nil h
        exact trodAll_mk0
      | cons t ts ih =>
        intro vs es ps hr hlt hs h
        obtain ⟨v, vs1, d, ds1, a, b, rfl, rfl, rfl, h1, h2⟩ := trodAll_cons h
        refine ⟨a, b, WideElems.Trod_stays hl (hr t (by simp)).1 (hr t (by simp)).2 h1 (fun x hx => ?_) (fun x hx => hs x (by simp [hx])), ih (fun t ht => hr t (by simp [ht])) (fun x hx => hlt x (by simp [hx])) (fun x hx => hs x (by simp [hx])) h2, rfl⟩
        have hb := hblk x.block (hlt x (by simp [hx]))
        cases x with
        | cell b o => exact World.cell?_of_block (w := W) hb
        | map b => exact hb
    exact go hread (fun x hx => hlt x (by simpa using hx)) (fun x hx => hsp x (by simpa using hx)) hA
  · intro sp hsp
    rw [hvars, hspec]
    rfl
  · intro j t r h1 h2
    rw [hrt] at h1 h2
    have := ok_one (P := C.prog) (W' := W') (f := fn) (v := .bool true) (t := tb) hrt rfl (okWide_bool_mk htb true) j t r (by rw [hrt]; exact h1) (by rw [hrt]; exact h2)
    exact this

end Go.Sx

namespace Go.Sx
open Go Go.ChangeShapes Go.WideShapes Go.ChangeAt Go.RowKit

/-- What stands for the values of a type that came in, whatever the world. -/
def Takes (P : Program) (t : TypeId) (F : SV → Prop) : Prop :=
  ∀ (H : Type) (enc : TypeId × Value → H) (w : World) (base : Nat) (v : Value) (d : DataW H) (ps : List MemPlace),
    Value.okWide P w .any base t v → DataW.Trod enc P w 0 (fun _ => true) true t v d ps → ∃ s, F s ∧ Rel (envW w 8) s v

def TakesL (P : Program) : List TypeId → List (SV → Prop) → Prop
  | [], [] => True
  | t :: ts, F :: Fs => Takes P t F ∧ TakesL P ts Fs
  | _, _ => False

def AllF : List (SV → Prop) → List SV → Prop
  | [], [] => True
  | F :: Fs, s :: ss => F s ∧ AllF Fs ss
  | _, _ => False

theorem take_all {P : Program} {H : Type} {enc : TypeId × Value → H} {w : World} {base : Nat} : ∀ {ts : List TypeId} {Fs : List (SV → Prop)} {vs : List Value} {ds : List (DataW H)} {ps : List MemPlace},
    TakesL P ts Fs → (∀ (j : Nat) t v, ts[j]? = some t → vs[j]? = some v → Value.okWide P w .any base t v) →
    DataW.TrodAll enc P w 0 (fun _ => true) true ts vs ds ps → ∃ svs, AllF Fs svs ∧ RelL (envW w 8) svs vs ∧ ds.length = ts.length
  | [], [], vs, ds, ps, _, _, h => by
    obtain ⟨rfl, rfl, rfl⟩ := trodAll_nil h
    exact ⟨[], trivial, rfl, rfl⟩
  | t :: ts, F :: Fs, vs, ds, ps, ⟨h1, h2⟩, hv, h => by
    obtain ⟨v, vs', d, ds', p, q, rfl, rfl, rfl, h3, h4⟩ := trodAll_cons h
    obtain ⟨s, hs, hr⟩ := h1 H enc w base v d p (hv 0 t v rfl rfl) h3
    obtain ⟨ss, hss, hrs, hd⟩ := take_all h2 (fun j t v h5 h6 => hv (j + 1) t v (by simpa using h5) (by simpa using h6)) h4
    exact ⟨s :: ss, ⟨hs, hss⟩, ⟨v, vs', rfl, hr, hrs⟩, by simp [hd]⟩
  | [], _ :: _, _, _, _, h, _, _ => h.elim
  | _ :: _, [], _, _, _, h, _, _ => h.elim

def isArr8 (n : Nat) (s : SV) : Prop := ∃ l : List UInt8, l.length = n ∧ s = .a8 l
def isSl8 (es : Nat) (s : SV) : Prop := ∃ (n : Nat) (l : List UInt8), l.length = n * es ∧ n ≤ maxLen ∧ s = .isl 0 n es [(n * es, .a8 l)]
def isInt (k : IntKind) (s : SV) : Prop := ∃ n : Int, (Lit.int k n).wf = true ∧ s = .i k n
def isBool (s : SV) : Prop := ∃ b : Bool, s = .bool (b = true)
def isU8 (s : SV) : Prop := ∃ x : UInt8, s = .u8 x
def isU16 (s : SV) : Prop := ∃ x : UInt16, s = .u16 x
def isU32 (s : SV) : Prop := ∃ x : UInt32, s = .u32 x
def isU64 (s : SV) : Prop := ∃ x : UInt64, s = .u64 x
def isStr (s : SV) : Prop := ∃ l : List UInt8, l.length ≤ maxLen ∧ s = .str l

section
variable {P : Program}
theorem takes_arr8 {t e n : Nat} (ht : P.underlying t = some (.array n e)) (he : P.underlying e = some (.int .u8)) (hc : P.cellsOf e = 1) (hct : P.cellsOf t = n) : Takes P t (isArr8 n) := by
  intro H enc w base v d ps hv h
  unfold Value.okWide at hv
  rw [ht] at hv
  obtain ⟨cs, rfl, _⟩ := hv
  obtain ⟨fuel, h⟩ := h
  obtain ⟨l, hl, hcs⟩ := trod_arr8 ht he hc hct h
  refine ⟨.a8 l, ⟨l, hl, rfl⟩, ?_⟩
  show Value.agg cs = .agg (l.map w8).toArray
  congr 1
  apply Array.ext'
  simpa [Value.cells] using hcs

theorem takes_int {t : Nat} {k : IntKind} (ht : P.underlying t = some (.int k)) : Takes P t (isInt k) := by
  intro H enc w base v d ps hv h
  obtain ⟨n, rfl, _, _, hw⟩ := open_int ht hv h
  exact ⟨.i k n, ⟨n, hw, rfl⟩, rfl⟩

theorem takes_bool {t : Nat} (ht : P.underlying t = some .bool) : Takes P t isBool := by
  intro H enc w base v d ps hv h
  obtain ⟨b, rfl, _⟩ := open_bool ht hv h
  exact ⟨_, ⟨b, rfl⟩, b, rfl, Iff.rfl⟩

theorem takes_u8 {t : Nat} (ht : P.underlying t = some (.int .u8)) : Takes P t isU8 := by
  intro H enc w base v d ps hv h
  obtain ⟨n, rfl, _, _, hw⟩ := open_int ht hv h
  obtain ⟨x, hx⟩ := w8_of_wf hw
  exact ⟨_, ⟨x, rfl⟩, hx⟩

theorem takes_str {t : Nat} (ht : P.underlying t = some .string) : Takes P t isStr := by
  intro H enc w base v d ps hv h
  obtain ⟨s, rfl⟩ := okWide_string ht hv
  obtain ⟨fuel, h⟩ := h
  obtain ⟨s', h', _, hs⟩ := DataW.trod_string ht h
  obtain rfl : s = s' := by simpa [Value.cells] using h'
  exact ⟨.str s.data.toList, ⟨_, by rw [Array.length_toList]; exact hs, rfl⟩, by show Value.string s = .string ⟨s.data.toList.toArray⟩; simp⟩

/-- A slice of bytes, or of rows of bytes: its one cell. -/
theorem slice_cells {t e es : Nat} (k : Nat) (ht : P.underlying t = some (.slice e)) (hes : P.cellsOf e = es) (hpos : 0 < es)
    {H : Type} {enc : TypeId × Value → H} {w : World}
    (hel : ∀ (fuel : Nat) (ce : List Value) (y : DataW H × List MemPlace), DataW.trod enc P w 0 (fun _ => true) true fuel e ce = some y → ∀ j, j < es → ∃ x : UInt8, ce[j]? = some (w8 x))
    {fuel : Nat} {c : List Value} {y : DataW H × List MemPlace} (h : DataW.trod enc P w 0 (fun _ => true) true fuel t c = some y) : ∃ s v, isSl8 es s ∧ c = [v] ∧ RelS (envW w (k + 1)) s v := by
  rcases trod_sl ht (by omega) h with h0 | ⟨a', len, cap', b, o, hcs, hl, hm, ha, hels⟩
  · exact ⟨_, _, ⟨0, [], by simp, by simp [maxLen], rfl⟩, h0, 0, 0, 0, none, Or.inr ⟨by simp, rfl, trivial⟩, Nat.le_refl _, rfl, fun hh => absurd rfl hh⟩
  · rw [hes] at hels
    have hcell : ∀ k, k < len * es → ∃ x : UInt8, w.cell? ⟨b, o + k, none⟩ = some (w8 x) := by
      intro k hk
      obtain ⟨h1, h2, h3⟩ := row_index hk
      obtain ⟨ce, fu, y, hce, hc, hy⟩ := hels (k / es) h1
      obtain ⟨x, hx⟩ := hel fu ce y hy (k % es) h2
      refine ⟨x, ?_⟩
      have := hc (k % es) h2
      rw [h3] at this
      rw [this, hx]
    obtain ⟨l, hll, hlc⟩ := list_of_cells w8 (w := w) (b := b) (o := o) (len * es) hcell
    refine ⟨_, _, ⟨len, l, hll, by omega, rfl⟩, hcs, b, o, cap', some a', ?_, hl, rfl, fun hc => ?_⟩
    · by_cases h0 : len * es = 0
      · refine Or.inr ⟨h0, ?_, trivial⟩
        exact List.length_eq_zero_iff.1 (by omega)
      · refine Or.inl ⟨fun _ => (ha (fun hc => h0 ?_)).2, l.map w8, ⟨l.map w8, [], by simp, by simp [hll], rfl, rfl⟩, hlc⟩
        have : len = 0 := by omega
        rw [this, Nat.zero_mul]
    · rw [(ha hc).1]; simp

/-- A slice of bytes, or of rows of bytes. -/
theorem takes_slice {t e es : Nat} (ht : P.underlying t = some (.slice e)) (hes : P.cellsOf e = es) (hpos : 0 < es)
    (hel : ∀ (H : Type) (enc : TypeId × Value → H) (w : World) (fuel : Nat) (ce : List Value) (y : DataW H × List MemPlace), DataW.trod enc P w 0 (fun _ => true) true fuel e ce = some y → ∀ j, j < es → ∃ x : UInt8, ce[j]? = some (w8 x)) : Takes P t (isSl8 es) := by
  intro H enc w base v d ps hv h
  obtain ⟨fuel, h⟩ := h
  obtain ⟨a, n, cap, rfl⟩ := okWide_slice ht hv
  obtain ⟨s, v', hs, hc, hr⟩ := slice_cells 7 ht hes hpos (hel H enc w) h
  have : Value.slice a n cap = v' := by simpa [Value.cells] using hc
  obtain ⟨n', l, h1, h2, rfl⟩ := hs
  refine ⟨_, ⟨n', l, h1, h2, rfl⟩, ?_⟩
  rw [this]
  exact hr

/-- A slice of slices of bytes. -/
def rowS (l : List UInt8) : SV := .isl 0 l.length 1 [(l.length * 1, .a8 l)]
def isSlSl (s : SV) : Prop := ∃ (n : Nat) (L : Nat → List UInt8), (∀ q, q < n → (L q).length ≤ maxLen) ∧ n ≤ maxLen ∧ s = .isl 0 n 1 [(n * 1, .arr n 1 fun q => [(1, rowS (L q))])]
theorem takes_slSl {t e u : Nat} (ht : P.underlying t = some (.slice e)) (he : P.underlying e = some (.slice u)) (hce : P.cellsOf e = 1) (hu : P.underlying u = some (.int .u8)) (hcu : P.cellsOf u = 1) : Takes P t isSlSl := by
  intro H enc w base v d ps hv h
  obtain ⟨fuel, h⟩ := h
  obtain ⟨a, n, cap, rfl⟩ := okWide_slice ht hv
  have hel : ∀ (fuel : Nat) (ce : List Value) (y : DataW H × List MemPlace), DataW.trod enc P w 0 (fun _ => true) true fuel u ce = some y → ∀ j, j < 1 → ∃ x : UInt8, ce[j]? = some (w8 x) := by
    intro fuel ce y h j hj
    obtain ⟨k, hk, _, hw⟩ := DataW.trod_int hu h
    obtain ⟨x, hx⟩ := w8_of_wf hw
    obtain rfl : j = 0 := by omega
    exact ⟨x, by rw [hk, hx]; rfl⟩
  rcases trod_sl ht (by omega) h with h0 | ⟨a', len, cap', b, o, hcs, hl, hm, ha, hels⟩
  · have : Value.slice a n cap = .slice none 0 0 := by simpa [Value.cells] using h0
    cases this
    refine ⟨_, ⟨0, fun _ => [], fun q hq => absurd hq (Nat.not_lt_zero _), by simp [maxLen], rfl⟩, 0, 0, 0, none, Or.inr ⟨by simp, rfl, trivial⟩, Nat.le_refl _, rfl, fun hh => absurd rfl hh⟩
  · have hx : Value.slice a n cap = .slice (some a') len cap' := by simpa [Value.cells] using hcs
    cases hx
    rw [hce] at hels
    have hq : ∀ q : Nat, ∃ sv : List UInt8 × Value, q < n → sv.1.length ≤ maxLen ∧ w.cell? ⟨b, o + q, none⟩ = some sv.2 ∧ RelS (envW w (6 + 1)) (rowS sv.1) sv.2 := by
      intro q
      by_cases hlt : q < n
      · obtain ⟨ce, fu, y, hcl, hc, hy⟩ := hels q hlt
        obtain ⟨s, v, h1, h2, h3⟩ := slice_cells 6 he hcu (by omega) hel hy
        obtain ⟨n', l, h4, h5, rfl⟩ := h1
        obtain rfl : n' = l.length := by omega
        refine ⟨(l, v), fun _ => ⟨h5, ?_, h3⟩⟩
        have := hc 0 (by omega)
        rw [h2, Nat.mul_one, Nat.add_zero] at this
        exact this
      · exact ⟨([], .bool false), fun h => absurd h hlt⟩
    obtain ⟨S, hS⟩ := Classical.axiomOfChoice hq
    refine ⟨_, ⟨n, fun q => (S q).1, fun q h => (hS q h).1, by omega, rfl⟩, b, o, cap, some a', ?_, hl, rfl, fun hc => ?_⟩
    · by_cases h0 : n = 0
      · subst h0
        exact Or.inr ⟨rfl, rfl, trivial⟩
      · refine Or.inl ⟨fun _ => (ha (fun hc => h0 (by omega))).2, (List.range n).map fun q => (S q).2, ⟨(List.range n).map fun q => (S q).2, [], by simp, by simp, ⟨by simp, fun q hq => ?_⟩, rfl⟩, fun j v hj => ?_⟩
        · refine ⟨[(S q).2], [], ?_, rfl, ?_, rfl⟩
          · rw [Nat.mul_one]
            have hlt : q < ((List.range n).map fun q => (S q).2).length := by simpa using hq
            rw [List.drop_eq_getElem_cons hlt]
            simp
          · obtain ⟨h1, h2, h3⟩ := hS q hq
            exact ⟨_, h3, rfl⟩
        · have hlt := (List.getElem?_eq_some_iff.1 hj).1
          simp only [List.length_map, List.length_range] at hlt
          obtain ⟨h1, h2, h3⟩ := hS j hlt
          rw [List.getElem?_map, List.getElem?_range hlt] at hj
          simp only [Option.map_some, Option.some.injEq] at hj
          rw [h2, hj]
    · rw [(ha hc).1]; simp

theorem takes_sl8 {t e : Nat} (ht : P.underlying t = some (.slice e)) (he : P.underlying e = some (.int .u8)) (hc : P.cellsOf e = 1) : Takes P t (isSl8 1) := by
  refine takes_slice ht hc (by omega) fun H enc w fuel ce y h j hj => ?_
  obtain ⟨k, hk, _, hw⟩ := DataW.trod_int he h
  obtain ⟨x, hx⟩ := w8_of_wf hw
  obtain rfl : j = 0 := by omega
  exact ⟨x, by rw [hk, hx]; rfl⟩

theorem takes_slArr8 {t e u n : Nat} (ht : P.underlying t = some (.slice e)) (he : P.underlying e = some (.array n u)) (hu : P.underlying u = some (.int .u8)) (hcu : P.cellsOf u = 1) (hce : P.cellsOf e = n) (hpos : 0 < n) : Takes P t (isSl8 n) := by
  refine takes_slice ht hce hpos fun H enc w fuel ce y h j hj => ?_
  obtain ⟨l, hl, rfl⟩ := trod_arr8 he hu hcu hce h
  exact ⟨l[j]'(by omega), by simp [List.getElem?_eq_getElem (show j < l.length by omega)]⟩
end

/-- A law over arguments that nobody owns. -/
theorem law_row {C : Checked} {f : FuncId} {fn : Func} {s : ChangeSpec} {apart fresh handsOn again : Bool} {H : Type} {enc : TypeId × Value → H} {tb : TypeId} {Fs : List (SV → Prop)} {ts : List TypeId}
    {W : World} {base : Nat} {args : Array Value} {ds gs : List (DataW H)} {before : List MemPlace}
    (hl : laidOutB C.prog = true) (hps : fn.params.toList = ts) (hread : (ts.all fun t => C.prog.readableRec t && decide (t < C.prog.types.size)) = true) (hvars : s.vars = []) (hT : TakesL C.prog ts Fs)
    (hspec : ∀ ds : List (DataW H), ds.length = ts.length → s.fn H ds = { results := [.lit (.bool true)], args := ds }) (hrt : fn.resultTypes = #[tb]) (htb : C.prog.underlying tb = some .bool)
    (hf : ∀ svs, AllF Fs svs → Sx.Fn C.prog f svs [] (fun v _ => v = .tt))
    (hval : ∀ (j : Nat) t v, fn.params[j]? = some t → args[j]? = some v → Value.okWide C.prog W .any base t v)
    (hW : DataW.Whole enc C.prog fn.params.toList s.vars apart W args.toList ds gs before) :
    Calls C.prog f args W fun e W' => ∃ v, e = .returned v ∧ s.post enc C.prog fn apart fresh handsOn again W args v W' := by
  have hW0 := hW
  rw [hvars] at hW0
  obtain ⟨p, q, hA, hV, rfl, hfz, hnd⟩ := hW0
  obtain ⟨rfl, rfl⟩ := trodVars_none hV
  rw [hps] at hA
  obtain ⟨svs, hF, hR, hd⟩ := take_all hT (fun j t v h1 h2 => hval j t v (by rw [← Array.getElem?_toList, hps]; exact h1) (by rw [← Array.getElem?_toList]; exact h2)) hA
  refine law_close (ρ := envW W 8) (M0 := []) (R := fun v _ => v = .tt) hl (by rw [hps]; exact fun t ht => by have := List.all_eq_true.1 hread t ht; simpa using this) hvars ?_ hrt htb (envW_conc W 8) (envW_owns W 8) hR (hf svs hF) (fun _ _ h => h) hW
  have := hspec (ds ++ []) (by simpa using hd)
  simpa using this

end Go.Sx

namespace Go.Sx
open Go Go.ChangeShapes Go.WideShapes Go.ChangeAt Go.RowKit

/-- What stands for the cells of a type that came in, at a depth. -/
def TakesC (P : Program) (t : TypeId) (k : Nat) (F : List (Nat × SV) → Prop) : Prop :=
  ∀ (H : Type) (enc : TypeId × Value → H) (w : World) (fuel : Nat) (c : List Value) (y : DataW H × List MemPlace), DataW.trod enc P w 0 (fun _ => true) true fuel t c = some y → ∃ ls, F ls ∧ CellsL0 (envW w k) ls c

def cInt (k : IntKind) (ls : List (Nat × SV)) : Prop := ∃ n : Int, (Lit.int k n).wf = true ∧ ls = [(1, .i k n)]
def cU8 (ls : List (Nat × SV)) : Prop := ∃ x : UInt8, ls = [(1, .u8 x)]
def cBool (ls : List (Nat × SV)) : Prop := ∃ b : Bool, ls = [(1, .bool (b = true))]
def cStr (ls : List (Nat × SV)) : Prop := ∃ l : List UInt8, l.length ≤ maxLen ∧ ls = [(1, .str l)]
def cArr8 (n : Nat) (ls : List (Nat × SV)) : Prop := ∃ l : List UInt8, l.length = n ∧ ls = [(n, .a8 l)]
def cSl8 (es : Nat) (ls : List (Nat × SV)) : Prop := ∃ (n : Nat) (l : List UInt8), l.length = n * es ∧ n ≤ maxLen ∧ ls = [(1, .isl 0 n es [(n * es, .a8 l)])]
def cSlI (ls : List (Nat × SV)) : Prop := ∃ l : List Int, (∀ x ∈ l, (Lit.int .i64 x).wf = true) ∧ l.length ≤ maxLen ∧ ls = [(1, .isl 0 l.length 1 [(l.length * 1, .ai l)])]
def cSl (es : Nat) (D : List (Nat × SV)) (F : List (Nat × SV) → Prop) (ls : List (Nat × SV)) : Prop := ∃ (n : Nat) (L : Nat → List (Nat × SV)), (∀ q, q < n → F (L q)) ∧ (∀ q, n ≤ q → L q = D) ∧ n ≤ maxLen ∧ ls = [(1, .isl 0 n es [(n * es, .arr n es L)])]
def catF : List (List (Nat × SV) → Prop) → List (Nat × SV) → Prop
  | [], ls => ls = []
  | F :: Fs, ls => ∃ l1 l2, F l1 ∧ catF Fs l2 ∧ ls = l1 ++ l2

theorem CellsL0_app {ρ : Env} : ∀ {l1 l2 : List (Nat × SV)} {c1 c2 : List Value}, CellsL0 ρ l1 c1 → CellsL0 ρ l2 c2 → CellsL0 ρ (l1 ++ l2) (c1 ++ c2)
  | [], l2, c1, c2, h1, h2 => by obtain rfl : c1 = [] := h1; exact h2
  | (s, v) :: r, l2, c, c2, ⟨a, b, e, hl, h1, h2⟩, h3 => ⟨a, b ++ c2, by rw [e, List.append_assoc], hl, h1, CellsL0_app h2 h3⟩

section
variable {P : Program}
theorem takesC_int {t k : Nat} {ik : IntKind} (ht : P.underlying t = some (.int ik)) : TakesC P t k (cInt ik) := by
  intro H enc w fuel c y h
  obtain ⟨n, rfl, _, hw⟩ := DataW.trod_int ht h
  exact ⟨_, ⟨n, hw, rfl⟩, [_], [], rfl, rfl, ⟨_, rfl, rfl⟩, rfl⟩
theorem takesC_u8 {t k : Nat} (ht : P.underlying t = some (.int .u8)) : TakesC P t k cU8 := by
  intro H enc w fuel c y h
  obtain ⟨n, rfl, _, hw⟩ := DataW.trod_int ht h
  obtain ⟨x, hx⟩ := w8_of_wf hw
  exact ⟨_, ⟨x, rfl⟩, [_], [], rfl, rfl, ⟨_, hx, rfl⟩, rfl⟩
theorem takesC_bool {t k : Nat} (ht : P.underlying t = some .bool) : TakesC P t k cBool := by
  intro H enc w fuel c y h
  obtain ⟨b, rfl, _⟩ := DataW.trod_bool ht h
  exact ⟨_, ⟨b, rfl⟩, [_], [], rfl, rfl, ⟨_, ⟨b, rfl, Iff.rfl⟩, rfl⟩, rfl⟩
theorem takesC_str {t k : Nat} (ht : P.underlying t = some .string) : TakesC P t k cStr := by
  intro H enc w fuel c y h
  obtain ⟨s, rfl, _, hs⟩ := DataW.trod_string ht h
  exact ⟨_, ⟨s.data.toList, by rw [Array.length_toList]; exact hs, rfl⟩, [_], [], rfl, rfl, ⟨_, rfl, by simp⟩, rfl⟩
theorem takesC_arr8 {t e n k : Nat} (ht : P.underlying t = some (.array n e)) (he : P.underlying e = some (.int .u8)) (hc : P.cellsOf e = 1) (hct : P.cellsOf t = n) : TakesC P t k (cArr8 n) := by
  intro H enc w fuel c y h
  obtain ⟨l, hl, rfl⟩ := trod_arr8 ht he hc hct h
  exact ⟨_, ⟨l, hl, rfl⟩, _, [], (List.append_nil _).symm, by simp [hl], rfl, rfl⟩
theorem takesC_sl8 {t e es k : Nat} (ht : P.underlying t = some (.slice e)) (hes : P.cellsOf e = es) (hpos : 0 < es)
    (hel : ∀ (H : Type) (enc : TypeId × Value → H) (w : World) (fuel : Nat) (ce : List Value) (y : DataW H × List MemPlace), DataW.trod enc P w 0 (fun _ => true) true fuel e ce = some y → ∀ j, j < es → ∃ x : UInt8, ce[j]? = some (w8 x)) : TakesC P t (k + 1) (cSl8 es) := by
  intro H enc w fuel c y h
  obtain ⟨s, v, ⟨n, l, h1, h2, rfl⟩, rfl, hr⟩ := slice_cells k ht hes hpos (hel H enc w) h
  exact ⟨_, ⟨n, l, h1, h2, rfl⟩, [v], [], rfl, rfl, ⟨v, hr, rfl⟩, rfl⟩
theorem takesC_slU8 {t e k : Nat} (ht : P.underlying t = some (.slice e)) (he : P.underlying e = some (.int .u8)) (hc : P.cellsOf e = 1) : TakesC P t (k + 1) (cSl8 1) := by
  refine takesC_sl8 ht hc (by omega) fun H enc w fuel ce y h j hj => ?_
  obtain ⟨k, hk, _, hw⟩ := DataW.trod_int he h
  obtain ⟨x, hx⟩ := w8_of_wf hw
  obtain rfl : j = 0 := by omega
  exact ⟨x, by rw [hk, hx]; rfl⟩

/-- A slice: what its elements' cells are. -/
theorem slice_els {t e es : Nat} (ht : P.underlying t = some (.slice e)) (hes : P.cellsOf e = es) (hpos : 0 < es) {H : Type} {enc : TypeId × Value → H} {w : World} {fuel : Nat} {c : List Value} {y : DataW H × List MemPlace}
    (h : DataW.trod enc P w 0 (fun _ => true) true fuel t c = some y) :
    c = [.slice none 0 0] ∨ ∃ (a : Addr) (n cap b o : Nat) (C : Nat → List Value), c = [.slice (some a) n cap] ∧ n ≤ cap ∧ cap ≤ maxLen ∧ (cap ≠ 0 → a = ⟨b, o, none⟩ ∧ b < w.heap.size) ∧
      ∀ q, q < n → (C q).length = es ∧ (∀ j, j < es → w.cell? ⟨b, o + (q * es + j), none⟩ = (C q)[j]?) ∧ ∃ fu z, DataW.trod enc P w 0 (fun _ => true) true fu e (C q) = some z := by
  rcases trod_sl ht (by omega) h with h0 | ⟨a, n, cap, b, o, hcs, hl, hm, ha, hels⟩
  · exact Or.inl h0
  · right
    have hq : ∀ q : Nat, ∃ ce : List Value, q < n → ce.length = es ∧ (∀ j, j < es → w.cell? ⟨b, o + (q * es + j), none⟩ = ce[j]?) ∧ ∃ fu z, DataW.trod enc P w 0 (fun _ => true) true fu e ce = some z := by
      intro q
      by_cases hlt : q < n
      · obtain ⟨ce, fu, z, h1, h2, h3⟩ := hels q hlt
        rw [hes] at h1 h2
        exact ⟨ce, fun _ => ⟨h1, h2, fu, z, h3⟩⟩
      · exact ⟨[], fun h => absurd h hlt⟩
    obtain ⟨C, hC⟩ := Classical.axiomOfChoice hq
    exact ⟨a, n, cap, b, o, C, hcs, hl, hm, ha, hC⟩

/-- Many runs of cells, one behind the other. -/
def catC (C : Nat → List Value) : Nat → List Value
  | 0 => []
  | n + 1 => catC C n ++ C n
theorem catC_length {C : Nat → List Value} {es : Nat} : ∀ {n : Nat}, (∀ q, q < n → (C q).length = es) → (catC C n).length = n * es
  | 0, _ => by simp [catC]
  | n + 1, h => by simp only [catC, List.length_append]; rw [catC_length fun q hq => h q (by omega), h n (by omega), Nat.add_mul, Nat.one_mul]
theorem catC_row {C : Nat → List Value} {es : Nat} : ∀ {n : Nat}, (∀ q, q < n → (C q).length = es) → ∀ q, q < n → ((catC C n).drop (q * es)).take es = C q
  | 0, _, q, hq => absurd hq (Nat.not_lt_zero _)
  | n + 1, h, q, hq => by
    have hl := catC_length (C := C) (es := es) (n := n) fun q hq => h q (by omega)
    have hn := h n (by omega)
    simp only [catC]
    by_cases hqn : q = n
    · subst hqn
      rw [List.drop_append, hl, Nat.sub_self, List.drop_of_length_le (by omega)]
      simp [← hn]
    · have hlt : q < n := by omega
      have hle : (q + 1) * es ≤ n * es := Nat.mul_le_mul_right _ hlt
      rw [Nat.add_mul, Nat.one_mul] at hle
      rw [List.drop_append_of_le_length (by omega), List.take_append_of_le_length (by rw [List.length_drop]; omega)]
      exact catC_row (fun q hq => h q (by omega)) q hlt
theorem catC_get {C : Nat → List Value} {es : Nat} (hpos : 0 < es) {n : Nat} (h : ∀ q, q < n → (C q).length = es) {j : Nat} {v : Value} (hj : (catC C n)[j]? = some v) : ∃ q k, q < n ∧ k < es ∧ j = q * es + k ∧ (C q)[k]? = some v := by
  have hlt := (List.getElem?_eq_some_iff.1 hj).1
  rw [catC_length h] at hlt
  have hq : j / es < n := Nat.div_lt_of_lt_mul (by rw [Nat.mul_comm]; exact hlt)
  have hk := Nat.mod_lt j hpos
  have hjq : j = j / es * es + j % es := by rw [Nat.mul_comm]; exact (Nat.div_add_mod j es).symm
  refine ⟨j / es, j % es, hq, hk, hjq, ?_⟩
  rw [← catC_row h (j / es) hq, List.getElem?_take, if_pos hk, List.getElem?_drop, ← hjq]
  exact hj

theorem takesC_sl {t e es k : Nat} {D : List (Nat × SV)} {F : List (Nat × SV) → Prop} (ht : P.underlying t = some (.slice e)) (hes : P.cellsOf e = es) (hpos : 0 < es) (he : TakesC P e k F) : TakesC P t (k + 1) (cSl es D F) := by
  intro H enc w fuel c y h
  rcases slice_els ht hes hpos h with rfl | ⟨a, n, cap, b, o, C, rfl, hl, hm, ha, hC⟩
  · exact ⟨_, ⟨0, fun _ => D, fun q hq => absurd hq (Nat.not_lt_zero _), fun _ _ => rfl, by simp [maxLen], rfl⟩, [_], [], rfl, rfl, ⟨_, ⟨0, 0, 0, none, Or.inr ⟨by simp, rfl, trivial⟩, Nat.le_refl _, rfl, fun hh => absurd rfl hh⟩, rfl⟩, rfl⟩
  · have hq : ∀ q : Nat, ∃ ls : List (Nat × SV), (q < n → F ls ∧ CellsL0 (envW w k) ls (C q)) ∧ (n ≤ q → ls = D) := by
      intro q
      by_cases hlt : q < n
      · obtain ⟨_, _, fu, z, h3⟩ := hC q hlt
        obtain ⟨ls, k1, k2⟩ := he H enc w fu _ z h3
        exact ⟨ls, fun _ => ⟨k1, k2⟩, fun h => absurd h (by omega)⟩
      · exact ⟨D, fun h => absurd h hlt, fun _ => rfl⟩
    obtain ⟨L, hL⟩ := Classical.axiomOfChoice hq
    have hlen : ∀ q, q < n → (C q).length = es := fun q hq => (hC q hq).1
    refine ⟨_, ⟨n, L, fun q hq => ((hL q).1 hq).1, fun q hq => (hL q).2 hq, by omega, rfl⟩, [_], [], rfl, rfl, ⟨_, ⟨b, o, cap, some a, ?_, hl, rfl, fun hc => ?_⟩, rfl⟩, rfl⟩
    · by_cases h0 : n = 0
      · subst h0
        exact Or.inr ⟨by simp, rfl, trivial⟩
      · refine Or.inl ⟨fun _ => (ha (fun hc => h0 (by omega))).2, catC C n, ⟨catC C n, [], by simp, catC_length hlen, ⟨catC_length hlen, fun q hq => ?_⟩, rfl⟩, fun j v hj => ?_⟩
        · rw [catC_row hlen q hq]
          exact ((hL q).1 hq).2
        · obtain ⟨q, x, h1, h2, rfl, h3⟩ := catC_get hpos hlen hj
          rw [(hC q h1).2.1 x h2, h3]
    · rw [(ha hc).1]; simp

theorem takesC_slI {t e k : Nat} (ht : P.underlying t = some (.slice e)) (he : P.underlying e = some (.int .i64)) (hc : P.cellsOf e = 1) : TakesC P t (k + 1) cSlI := by
  intro H enc w fuel c y h
  rcases slice_els ht hc (by omega) h with rfl | ⟨a, n, cap, b, o, C, rfl, hl, hm, ha, hC⟩
  · exact ⟨_, ⟨[], by simp, by simp [maxLen], rfl⟩, [_], [], rfl, rfl, ⟨_, ⟨0, 0, 0, none, Or.inr ⟨by simp, rfl, trivial⟩, Nat.le_refl _, rfl, fun hh => absurd rfl hh⟩, rfl⟩, rfl⟩
  · have hq : ∀ q, q < n → ∃ x : Int, (Lit.int .i64 x).wf = true ∧ w.cell? ⟨b, o + q, none⟩ = some (wi x) := by
      intro q hq
      obtain ⟨_, h2, fu, z, h3⟩ := hC q hq
      obtain ⟨x, hx, _, hw⟩ := DataW.trod_int he h3
      refine ⟨x, hw, ?_⟩
      have := h2 0 (by omega)
      rw [Nat.mul_one, Nat.add_zero, hx] at this
      exact this
    have key : ∀ m, m ≤ n → ∃ l : List Int, l.length = m ∧ (∀ x ∈ l, (Lit.int .i64 x).wf = true) ∧ ∀ j v, (l.map wi)[j]? = some v → w.cell? ⟨b, o + j, none⟩ = some v := by
      intro m
      induction m with
      | zero => exact fun _ => ⟨[], rfl, by simp, fun j v h => by simp at h⟩
      | succ m ih =>
        intro hm
        obtain ⟨l, h1, h2, h3⟩ := ih (by omega)
        obtain ⟨x, h4, h5⟩ := hq m (by omega)
        refine ⟨l ++ [x], by simp [h1], fun z hz => ?_, fun j v hj => ?_⟩
        · rcases List.mem_append.1 hz with hz | hz
          · exact h2 z hz
          · obtain rfl : z = x := by simpa using hz
            exact h4
        · by_cases hjm : j < m
          · refine h3 j v ?_
            rw [List.map_append, List.getElem?_append_left (by simp [h1, hjm])] at hj
            exact hj
          · have hlt := (List.getElem?_eq_some_iff.1 hj).1
            simp [h1] at hlt
            have : j = m := by omega
            subst this
            rw [List.map_append, List.getElem?_append_right (by simp [h1])] at hj
            simp [h1] at hj
            rw [h5, hj]
    obtain ⟨l, h1, h2, h3⟩ := key n (Nat.le_refl _)
    subst h1
    refine ⟨_, ⟨l, h2, by omega, rfl⟩, [_], [], rfl, rfl, ⟨_, ⟨b, o, cap, some a, ?_, hl, rfl, fun hc => ?_⟩, rfl⟩, rfl⟩
    · by_cases h0 : l.length = 0
      · exact Or.inr ⟨by omega, List.length_eq_zero_iff.1 h0, trivial⟩
      · exact Or.inl ⟨fun _ => (ha (fun hc => h0 (by omega))).2, l.map wi, ⟨l.map wi, [], by simp, by simp, rfl, rfl⟩, h3⟩
    · rw [(ha hc).1]; simp

/-- Fields one behind the other. -/
def fitB (P : Program) : Nat → List Field → Nat → Bool
  | off, [], tot => Nat.beq off tot
  | off, f :: r, tot => Nat.beq f.offset off && fitB P (off + P.cellsOf f.type) r tot
def TakesFs (P : Program) (k : Nat) : List Field → List (List (Nat × SV) → Prop) → Prop
  | [], [] => True
  | f :: r, F :: Fs => TakesC P f.type k F ∧ TakesFs P k r Fs
  | _, _ => False

theorem takes_fields {k : Nat} {H : Type} {enc : TypeId × Value → H} {w : World} {cs : List Value} : ∀ {fs : List Field} {Fs : List (List (Nat × SV) → Prop)} {off : Nat}, fitB P off fs cs.length = true → TakesFs P k fs Fs →
    (∀ f ∈ fs, ∃ fu y, DataW.trod enc P w 0 (fun _ => true) true fu f.type ((cs.drop f.offset).take (P.cellsOf f.type)) = some y) → ∃ ls, catF Fs ls ∧ CellsL0 (envW w k) ls (cs.drop off)
  | [], [], off, hf, _, _ => by
    have := beq_eq' hf
    exact ⟨[], rfl, by rw [this, List.drop_length]; rfl⟩
  | f :: r, F :: Fs, off, hf, ⟨h1, h2⟩, hall => by
    simp only [fitB, Bool.and_eq_true] at hf
    have ho := beq_eq' hf.1
    obtain ⟨ls2, k1, k2⟩ := takes_fields hf.2 h2 fun g hg => hall g (List.mem_cons_of_mem _ hg)
    obtain ⟨fu, y, hy⟩ := hall f (by simp)
    obtain ⟨ls1, m1, m2⟩ := h1 H enc w fu _ y hy
    refine ⟨ls1 ++ ls2, ⟨ls1, ls2, m1, k1, rfl⟩, ?_⟩
    rw [ho] at m2
    have : cs.drop off = (cs.drop off).take (P.cellsOf f.type) ++ cs.drop (off + P.cellsOf f.type) := by
      rw [← List.drop_drop, List.take_append_drop]
    rw [this]
    exact CellsL0_app m2 k2
  | [], _ :: _, _, _, h, _ => h.elim
  | _ :: _, [], _, _, h, _ => h.elim

theorem takesC_struct {t k : Nat} {fs : Array Field} {Fs : List (List (Nat × SV) → Prop)} (ht : P.underlying t = some (.struct fs)) (hfit : fitB P 0 fs.toList (P.cellsOf t) = true) (hfs : TakesFs P k fs.toList Fs) : TakesC P t k (catF Fs) := by
  intro H enc w fuel c y h
  obtain ⟨xs, n, _, _, hl, hlen, hf⟩ := DataW.trod_struct ht h
  rw [← hl] at hfit
  have := takes_fields (enc := enc) (w := w) hfit hfs fun f hfm => by
    obtain ⟨i, hi, hfi⟩ := List.getElem_of_mem hfm
    have h1 := hf i f (by rw [← hfi]; simp at hi ⊢)
    rw [List.getElem?_eq_getElem (by simp at hi; omega)] at h1
    exact ⟨n, _, h1⟩
  simpa using this

/-- Rows as a list. -/
theorem rows_list {α : Type} (row : α → List (Nat × SV)) (d : α) (Pr : α → Prop) {n : Nat} {L : Nat → List (Nat × SV)} (h : ∀ q, q < n → ∃ x, Pr x ∧ L q = row x) (hD : ∀ q, n ≤ q → L q = row d) :
    ∃ l : List α, l.length = n ∧ (∀ x ∈ l, Pr x) ∧ L = fun q => row (l.getD q d) := by
  have h2 : ∀ q, ∃ x, (q < n → Pr x ∧ L q = row x) := fun q => by
    by_cases hq : q < n
    · obtain ⟨x, hx⟩ := h q hq; exact ⟨x, fun _ => hx⟩
    · exact ⟨d, fun h => absurd h hq⟩
  obtain ⟨f, hf⟩ := Classical.axiomOfChoice h2
  refine ⟨(List.range n).map f, by simp, fun x hx => ?_, funext fun q => ?_⟩
  · obtain ⟨q, hq, rfl⟩ := List.mem_map.1 hx
    exact (hf q (List.mem_range.1 hq)).1
  · by_cases hq : q < n
    · rw [List.getD_eq_getElem?_getD, List.getElem?_map, List.getElem?_range hq]
      exact (hf q hq).2
    · rw [List.getD_eq_getElem?_getD, List.getElem?_eq_none (by simp; omega)]
      exact hD q (by omega)

theorem AllF_cons {F : SV → Prop} {Fs : List (SV → Prop)} {svs : List SV} (h : AllF (F :: Fs) svs) : ∃ s r, svs = s :: r ∧ F s ∧ AllF Fs r := by
  cases svs with
  | nil => exact h.elim
  | cons s r => exact ⟨s, r, rfl, h.1, h.2⟩
theorem AllF_nil {svs : List SV} (h : AllF [] svs) : svs = [] := by
  cases svs with
  | nil => rfl
  | cons s r => exact h.elim

/-! Arguments -/

def isOfSl (es : Nat) (D : List (Nat × SV)) (F : List (Nat × SV) → Prop) (s : SV) : Prop := ∃ (n : Nat) (L : Nat → List (Nat × SV)), (∀ q, q < n → F (L q)) ∧ (∀ q, n ≤ q → L q = D) ∧ n ≤ maxLen ∧ s = .isl 0 n es [(n * es, .arr n es L)]
def isOfStruct (F : List (Nat × SV) → Prop) (s : SV) : Prop := ∃ ls, F ls ∧ s = .agg ls

theorem takes_ofSl {t e es : Nat} {D : List (Nat × SV)} {F : List (Nat × SV) → Prop} (ht : P.underlying t = some (.slice e)) (hes : P.cellsOf e = es) (hpos : 0 < es) (he : TakesC P e 7 F) : Takes P t (isOfSl es D F) := by
  intro H enc w base v d ps hv h
  obtain ⟨fuel, h⟩ := h
  obtain ⟨a, n, cap, rfl⟩ := okWide_slice ht hv
  obtain ⟨ls, ⟨n', L, h1, h1d, h2, rfl⟩, c1, c2, e1, _, ⟨x, hx, e3⟩, e2⟩ := takesC_sl (D := D) ht hes hpos he H enc w fuel _ _ h
  have e2 : c2 = [] := e2
  subst e2; subst e3
  have : Value.slice a n cap = x := by simpa [Value.cells] using e1
  subst this
  exact ⟨_, ⟨n', L, h1, h1d, h2, rfl⟩, hx⟩
theorem takes_ofSlI {t e : Nat} (ht : P.underlying t = some (.slice e)) (he : P.underlying e = some (.int .i64)) (hc : P.cellsOf e = 1) : Takes P t (fun s => ∃ l : List Int, (∀ x ∈ l, (Lit.int .i64 x).wf = true) ∧ l.length ≤ maxLen ∧ s = .isl 0 l.length 1 [(l.length * 1, .ai l)]) := by
  intro H enc w base v d ps hv h
  obtain ⟨fuel, h⟩ := h
  obtain ⟨a, n, cap, rfl⟩ := okWide_slice ht hv
  obtain ⟨ls, ⟨l, h1, h2, rfl⟩, c1, c2, e1, _, ⟨x, hx, e3⟩, e2⟩ := takesC_slI (k := 7) ht he hc H enc w fuel _ _ h
  have e2 : c2 = [] := e2
  subst e2; subst e3
  have : Value.slice a n cap = x := by simpa [Value.cells] using e1
  subst this
  exact ⟨_, ⟨l, h1, h2, rfl⟩, hx⟩
theorem takes_ofStruct {t : Nat} {fs : Array Field} {F : List (Nat × SV) → Prop} (ht : P.underlying t = some (.struct fs)) (hF : TakesC P t 8 F) : Takes P t (isOfStruct F) := by
  intro H enc w base v d ps hv h
  obtain ⟨fuel, h⟩ := h
  obtain ⟨cs, rfl, _⟩ := okWide_struct ht hv
  obtain ⟨ls, h1, h2⟩ := hF H enc w fuel _ _ h
  exact ⟨_, ⟨ls, h1, rfl⟩, _, CellsL0_CellsL h2, by simp [Value.cells]⟩
end
end Go.Sx

namespace Go.Sx
open Go Go.ChangeShapes Go.WideShapes Go.ChangeAt Go.RowKit

def structB (P : Program) (t : TypeId) (l : List (Nat × Nat)) : Bool :=
  match P.underlying t with
  | some (.struct fs) => kindOf fs == l
  | _ => false
def fitP (P : Program) : Nat → List (Nat × Nat) → Nat → Bool
  | off, [], tot => Nat.beq off tot
  | off, f :: r, tot => Nat.beq f.1 off && fitP P (off + P.cellsOf f.2) r tot
def TakesPs (P : Program) (k : Nat) : List (Nat × Nat) → List (List (Nat × SV) → Prop) → Prop
  | [], [] => True
  | f :: r, F :: Fs => TakesC P f.2 k F ∧ TakesPs P k r Fs
  | _, _ => False

theorem fitP_fitB {P : Program} : ∀ {fds : List Field} {off tot : Nat}, fitP P off (fds.map fun f => (f.offset, f.type)) tot = true → fitB P off fds tot = true
  | [], _, _, h => h
  | f :: r, off, tot, h => by
    simp only [List.map_cons, fitP, Bool.and_eq_true] at h
    simp only [fitB, Bool.and_eq_true]
    exact ⟨h.1, fitP_fitB h.2⟩
theorem TakesPs_Fs {P : Program} {k : Nat} : ∀ {fds : List Field} {Fs : List (List (Nat × SV) → Prop)}, TakesPs P k (fds.map fun f => (f.offset, f.type)) Fs → TakesFs P k fds Fs
  | [], [], _ => trivial
  | f :: r, F :: Fs, h => ⟨h.1, TakesPs_Fs h.2⟩
  | [], _ :: _, h => h.elim
  | _ :: _, [], h => h.elim

section
variable {P : Program}
theorem structB_spec {t : TypeId} {l : List (Nat × Nat)} (h : structB P t l = true) : ∃ fs : Array Field, P.underlying t = some (.struct fs) ∧ (fs.toList.map fun f => (f.offset, f.type)) = l := by
  unfold structB at h
  split at h
  · rename_i fs hfs
    exact ⟨fs, hfs, by simpa [kindOf] using h⟩
  · cases h
theorem takesC_st {t k : Nat} (l : List (Nat × Nat)) {Fs : List (List (Nat × SV) → Prop)} (ht : structB P t l = true) (hfit : fitP P 0 l (P.cellsOf t) = true) (hfs : TakesPs P k l Fs) : TakesC P t k (catF Fs) := by
  obtain ⟨fs, h1, h2⟩ := structB_spec ht
  subst h2
  exact takesC_struct h1 (fitP_fitB hfit) (TakesPs_Fs hfs)
theorem takes_st {t : Nat} (l : List (Nat × Nat)) {Fs : List (List (Nat × SV) → Prop)} (ht : structB P t l = true) (hfit : fitP P 0 l (P.cellsOf t) = true) (hfs : TakesPs P 8 l Fs) : Takes P t (isOfStruct (catF Fs)) := by
  obtain ⟨fs, h1, h2⟩ := structB_spec ht
  exact takes_ofStruct h1 (takesC_st l ht hfit hfs)
end
end Go.Sx

namespace Go.Sx
open Go

abbrev rnd (l : Nat) : Fence := Fence.wide.inRound l

def noDefer : List Oper → Bool
  | [] => true
  | o :: r => (match o.op with
    | .defer _ => false
    | _ => true) && noDefer r

theorem noDefer_get : ∀ {l : List Oper}, noDefer l = true → ∀ o ∈ l, ∀ c, o.op ≠ .defer c
  | [], _, _, h, _ => by simp at h
  | o :: r, hn, o', h, c => by
    simp only [noDefer, Bool.and_eq_true] at hn
    rcases List.mem_cons.1 h with h | h
    · subst h
      intro he
      have := hn.1
      rw [he] at this
      cases this
    · exact noDefer_get hn.2 o' h c

theorem rows_in {l n : Nat} {P : Program} {row : String} {args : Array Value} {w : World} {R : Value → World → Prop} (h : Go.Rows P row args w R) : RowsIn (rnd l) n P row args w R := by
  intro c cs _
  obtain ⟨v, w', r, s⟩ := h c cs
  exact ⟨v, w', r, stepsIn_wide.2 s⟩

theorem upon_in {l n : Nat} {P : Program} {o : Oper} {a : Act} {K : Act → World → Prop} {Q : Exit → Act → World → Prop} {r : Result Next} (h : o.upon P a K Q r) : o.uponIn (rnd l) n P a K Q r := by
  cases r with
  | ok nx w' =>
    cases nx with
    | value v => exact h
    | skip => exact h
    | defer d => exact h
    | enter f args => exact ⟨fun hd => by simp [rnd, Fence.wide] at hd, (callsIn_wide.2 h).inRound l⟩
    | row row args => exact ⟨fun hd => by simp [rnd, Fence.wide] at hd, rows_in h⟩
    | _ => exact h.elim
  | halt x w' =>
    cases x with
    | panic v => exact h
    | _ => exact h.elim

theorem oper_in {l n : Nat} {P : Program} {o : Oper} (ho : ∀ c, o.op ≠ .defer c) {a : Act} {w : World} {K : Act → World → Prop} {Q : Exit → Act → World → Prop} (h : o.wp P a w K Q) : o.wpIn (rnd l) n P a w K Q := by
  refine ⟨fun _ _ => trivial, ?_⟩
  rw [Oper.semAt_eq _ _ _ ho]
  exact upon_in h

theorem wpList_in {l n : Nat} {P : Program} {ops : Array Oper} {Q : Exit → Act → World → Prop} (hlo : ¬ LetsOut Q) : ∀ {r : List Oper}, (∀ o ∈ r, ∀ c, o.op ≠ .defer c) → ∀ {a : Act} {w : World}, wpList P ops Q r a w → wpListIn (rnd l) n P ops Q r a w
  | [], _, _, _, h => h
  | o :: r, hd, a, w, h => by
    unfold wpList at h
    unfold wpListIn
    split at h
    · rename_i hw
      rw [if_pos hw]
      rcases h with h | ⟨_, h⟩
      · exact Oper.wpIn_mono (fun a' w' h' => wpList_in hlo (fun o' ho' => hd o' (by simp [ho'])) h') (oper_in (hd o (by simp)) h)
      · exact absurd h hlo
    · rename_i hw
      rw [if_neg hw]
      exact ⟨fun _ _ => trivial, wpList_in hlo (fun o' ho' => hd o' (by simp [ho'])) h⟩

theorem wpOp_in {l n : Nat} {P : Program} {ops : Array Oper} {Q : Exit → Act → World → Prop} (hlo : ¬ LetsOut Q) (hd : ∀ (i : Nat) (o : Oper), ops[i]? = some o → ∀ c, o.op ≠ .defer c) {i : Nat} {K K' : Act → World → Prop} (hk : ∀ a w, K a w → K' a w) {a : Act} {w : World}
    (h : wpOp P ops Q i K a w) : wpOpIn (rnd l) n P ops Q i K' a w := by
  unfold wpOp at h
  unfold wpOpIn
  split at h
  · rename_i he; rw [he]; exact hk _ _ h
  · rename_i o he
    rw [he]
    simp only
    split at h
    · rename_i hw
      rw [if_pos hw]
      rcases h with h | ⟨_, h⟩
      · exact Oper.wpIn_mono hk (oper_in (hd i o he) h)
      · exact absurd h hlo
    · rename_i hw
      rw [if_neg hw]
      exact ⟨fun _ _ => trivial, hk _ _ h⟩

theorem wpAny_in {l n : Nat} {P : Program} {md : Region.Mode} {ops : Array Oper} {Q : Exit → Act → World → Prop} (hlo : ¬ LetsOut Q) (hd : ∀ (i : Nat) (o : Oper), ops[i]? = some o → ∀ c, o.op ≠ .defer c) : ∀ (fuel : Nat) {listed : Array Bool} {a : Act} {w : World},
    wpAny P md ops Q fuel listed a w → wpAnyIn (rnd l) n P md ops Q fuel listed a w
  | 0, _, _, _, h => h
  | fuel + 1, _, _, _, h => ⟨h.1, fun i hi => wpOp_in hlo hd (fun a w => wpAny_in hlo hd fuel) (h.2 i hi)⟩

/-! ## Code in a round -/

def codeIn : Code → Bool
  | .region _ ops _ => noDefer ops.toList
  | .seq a b => codeIn a && codeIn b
  | .cond _ x y => codeIn x && codeIn y
  | .skip => true
  | _ => false

/-- A region, in a round. -/
theorem regionP_in {Γ : Cfg} {N : Nat} {Kn : List Nat} {ρA : Env} {l n : Nat} {id : Nat} {ops : Array Oper} {draw : Bool} (hok : dstOK N ops.toList = true) (hnd : noDefer ops.toList = true) {T : Tm} {M : Mm} {K : Tm → Mm → Prop} {ρ : Env} {a : Act} {w : World}
    (h : regionP Γ id ops draw T M K) (hc : Conc N ρ T M a w) (ha : Anch Kn ρA ρ) :
    (Code.region id ops draw).wpIn (rnd l) n Γ.P (fun e a' w' => e = .normal ∧ ∃ ρ' T' M', K T' M' ∧ Conc N ρ' T' M' a' w' ∧ Anch Kn ρA ρ' ∧ Step ρ M ρ' M' w w') a w := by
  have hnd' := noDefer_get hnd
  have hlo : ¬ LetsOut (fun (e : Exit) (a' : Act) (w' : World) => e = .normal ∧ ∃ ρ' T' M', K T' M' ∧ Conc N ρ' T' M' a' w' ∧ Anch Kn ρA ρ' ∧ Step ρ M ρ' M' w w') := fun ⟨_, _, h⟩ => by cases h.1
  cases draw with
  | false =>
    refine wpIn_region_list (wpList_in hlo hnd' ?_)
    have := runOps_sound (Γ := Γ) (N := N) (all := ops.toList) hok (K := K) (Q := fun e a' w' => e = .normal ∧ ∃ ρ' T' M', K T' M' ∧ Conc N ρ' T' M' a' w' ∧ Anch Kn ρA ρ' ∧ Step ρ M ρ' M' w w') ops.toList (fun o ho => ho) hc h
      (fun a' w' ⟨ρ', T', M', h1, h2, h3, h4⟩ => ⟨rfl, ρ', T', M', h1, h3, ha.le h2, h4⟩)
    simpa using this
  | true =>
    simp only [regionP] at h
    unfold Draw at h
    obtain ⟨dep, ord, hp, hF⟩ := h
    simp only [planAll, Bool.and_eq_true, List.all_eq_true] at hp
    obtain ⟨⟨hd, hplan⟩, hcov⟩ := hp
    have hg := Grows.drew w
    have e0 : pB (Array.replicate ops.toList.toArray.size false) = fun _ => false := by
      funext j; exact getD_replicate_false _ _
    have hleft : left ops.toList.length (fun _ => false) ≤ ops.toList.toArray.size := by
      unfold left
      have := List.length_filter_le (fun j => !(fun _ : Nat => false) j) (List.range ops.toList.length)
      simpa using this
    have e : ops = ops.toList.toArray := by simp
    refine wpIn_region_any Γ.mixed (wpAny_in hlo (fun i o ho => hnd' o (List.mem_of_getElem? (by simpa using ho))) _ ?_)
    rw [e]
    refine any_sound (ρ0 := ρ) (M00 := M) (w0 := w) (K := K) hd hok (fun c a w h => by cases h.1) hlo (fun a' w' ⟨ρ', T', M', h1, h2, h3, h4⟩ => ⟨rfl, ρ', T', M', h1, h3, ha.le h2, h4⟩) _ (by simp) (rs := []) (bf := []) (ord := ord) (T0 := T) (M0 := M) (ρ := ρ) ?_ ?_ (Env.le_refl _) ?_
    · rw [e0]
      exact ⟨Inv.start (hc.grows hg) (by simp) (by simp), by simp, by simp, hF, hplan, fun j hj => Or.inr (memB_iff.1 (hcov j (List.mem_range.2 hj)))⟩
    · rw [e0]; exact hleft
    · rw [e0]; exact hg.step

def EndIn (N : Nat) (Kn : List Nat) (ρA ρ : Env) (M : Mm) (w : World) (Q : Post) : Exit → Act → World → Prop :=
  fun e a' w' => e = .normal ∧ ∃ ρ' T' M', Q .normal T' M' ∧ Conc N ρ' T' M' a' w' ∧ Anch Kn ρA ρ' ∧ Step ρ M ρ' M' w w'

theorem exec_in {Γ : Cfg} {N : Nat} {Kn : List Nat} {ρA : Env} {l n : Nat} : ∀ {c : Code}, codeOK N c = true → codeIn c = true → ∀ {T : Tm} {M : Mm} {Q : Post} (_ : ∀ e T M, Q e T M → e = .normal) {ρ : Env} {a : Act} {w : World}, exec Γ [] Kn c T M Q → Conc N ρ T M a w → Anch Kn ρA ρ →
    c.wpIn (rnd l) n Γ.P (EndIn N Kn ρA ρ M w Q) a w := by
  intro c
  induction c with
  | skip => intro _ _ T M Q _ ρ a w h hc ha; exact wpIn_skip ⟨rfl, ρ, T, M, h, hc, ha, Step.refl _ _ _⟩
  | region id ops draw =>
    intro hok hin T M Q _ ρ a w h hc ha
    have h : regionP Γ id ops draw T M (Q .normal) := h
    exact regionP_in hok hin h hc ha
  | seq x y ihx ihy =>
    intro hok hin T M Q hQ ρ a w h hc ha
    simp only [codeOK, Bool.and_eq_true] at hok
    simp only [codeIn, Bool.and_eq_true] at hin
    have hQ2 : ∀ e T M, seqQ (fun T' M' => exec Γ [] Kn y T' M' Q) Q e T M → e = .normal := by
      intro e T M h
      cases e with
      | normal => rfl
      | _ => exact hQ _ _ _ h
    refine wpIn_seq (wpIn_mono (ihx hok.1 hin.1 hQ2 h hc ha) ?_)
    rintro e a' w' ⟨rfl, ρ', T', M', h1, h2, h3, h4⟩
    refine wpIn_mono (ihy hok.2 hin.2 hQ h1 h2 h3) ?_
    rintro e a'' w'' ⟨rfl, ρ'', T'', M'', g1, g2, g3, g4⟩
    exact ⟨rfl, ρ'', T'', M'', g1, g2, g3, h4.trans g4⟩
  | cond c x y ihx ihy =>
    intro hok hin T M Q hQ ρ a w h hc ha
    simp only [codeOK, Bool.and_eq_true] at hok
    simp only [codeIn, Bool.and_eq_true] at hin
    have hr := ev_rel hc c
    simp only [exec] at h
    split at h
    · rename_i he; rw [he] at hr
      exact wpIn_cond_true hr (ihx hok.1 hin.1 hQ h hc ha)
    · rename_i he; rw [he] at hr
      exact wpIn_cond_false hr (ihy hok.2 hin.2 hQ h hc ha)
    · rename_i p he; rw [he] at hr
      obtain ⟨b, hb, hbp⟩ := hr
      cases b with
      | true => exact wpIn_cond_true hb (ihx hok.1 hin.1 hQ (h.yes (hbp.1 rfl)) hc ha)
      | false => exact wpIn_cond_false hb (ihy hok.2 hin.2 hQ (h.no fun hp => by have := hbp.2 hp; cases this) hc ha)
    · exact h.elim
  | _ => intro _ hin; cases hin

/-! ## Operations that leave the world as it is -/

def pureOps (Γ : Cfg) (l : List Oper) (T : Tm) (M : Mm) (ps : List Prop) (K : Tm → Prop) : Prop :=
  match l with
  | [] => withP ps (K T)
  | o :: r => match o.guard with
    | none => match pureOp Γ.ty T M o.op with
      | some (qs, v) => forceP (qs ++ ps) fun qs => forceV v fun v => pureOps Γ r (putT o.dst v T) M qs K
      | none => False
    | some _ => False

theorem pureOps_all {Γ : Cfg} {M : Mm} {K : Tm → Prop} : ∀ {l : List Oper} {T : Tm} {ps : List Prop}, pureOps Γ l T M ps K → All ps
  | [], _, _, h => withP.all h
  | o :: r, T, ps, h => by
    unfold pureOps at h
    split at h
    · split at h
      · rw [forceP_eq, forceV_eq] at h
        exact (pureOps_all h).right
      · exact h.elim
    · exact h.elim

theorem pure_not_defer {ty : Nat → Ty} {T : Tm} {M : Mm} {op : Op} {r : List Prop × SV} (h : pureOp ty T M op = some r) : ∀ c, op ≠ .defer c := by
  rintro c rfl
  simp [pureOp] at h

theorem pureOps_in {Γ : Cfg} {N : Nat} {F : Fence} (hF : ∀ f, F.fn f) {n : Nat} {ops : Array Oper} {M : Mm} {K : Tm → Prop} {ρ : Env} {w : World} {Q : Exit → Act → World → Prop} (l2 : List Oper)
    (hQ : ∀ T' a', K T' → Conc N ρ T' M a' w → wpListIn F n Γ.P ops Q l2 a' w) : ∀ {l : List Oper}, dstOK N l = true → ∀ {T : Tm} {ps : List Prop} {a : Act}, pureOps Γ l T M ps K → Conc N ρ T M a w → wpListIn F n Γ.P ops Q (l ++ l2) a w
  | [], _, T, ps, a, h, hc => hQ T a (withP.rest h) hc
  | o :: r, hd, T, ps, a, h, hc => by
    have hdd := fun d => dstOK_get hd (o := o) (by simp) d
    unfold pureOps at h
    split at h
    · rename_i hg
      split at h
      · rename_i qs v hv
        rw [forceP_eq, forceV_eq] at h
        obtain ⟨x, hx, hr⟩ := pureOp_sound hc hv (pureOps_all h).left
        simp only [dstOK, Bool.and_eq_true] at hd
        show wpListIn F n Γ.P ops Q (o :: (r ++ l2)) a w
        unfold wpListIn
        rw [if_pos (by simp [Region.wanted, hg])]
        refine ⟨fun f _ => hF f, ?_⟩
        rw [Oper.semAt_eq _ _ _ (pure_not_defer hv), hr]
        show wpListIn F n Γ.P ops Q (r ++ l2) (a.put o.dst x) w
        refine pureOps_in hF l2 hQ hd.2 h ?_
        cases hdst : o.dst with
        | none => exact hc.put_none x
        | some d => exact hc.put (hdd d hdst) hx
      · exact h.elim
    · exact h.elim

theorem pureOps_cut {Γ : Cfg} {N : Nat} {F : Fence} (hF : ∀ f, F.fn f) {n : Nat} {ops : Array Oper} {M : Mm} {K : Tm → Prop} {ρ : Env} {w : World} {Q : Exit → Act → World → Prop} (k : Nat) {l : List Oper} {T : Tm} {a : Act}
    (hd : dstOK N (l.take k) = true) (h : pureOps Γ (l.take k) T M [] K) (hc : Conc N ρ T M a w) (hQ : ∀ T' a', K T' → Conc N ρ T' M a' w → wpListIn F n Γ.P ops Q (l.drop k) a' w) : wpListIn F n Γ.P ops Q l a w := by
  have := pureOps_in (Γ := Γ) hF (n := n) (ops := ops) (Q := Q) (l.drop k) hQ hd h hc
  rw [List.take_append_drop] at this
  exact this

theorem conc_start {N : Nat} {ρ : Env} {M : Mm} {w : World} {args : List SV} {xs : List Value} (hM : ConcM ρ M w) (hargs : RelL ρ args xs) (hn : xs.length ≤ N) :
    Conc N ρ (paramsFrom 0 args) M { tmps := xs.toArray ++ Array.replicate (N - xs.toArray.size) undef, defers := [] } w := by
  refine ⟨hM, by simp; omega, rfl, paramsFrom_rel 0 _ hargs fun j x hj => ?_⟩
  have hlt := (List.getElem?_eq_some_iff.1 hj).1
  rw [Nat.zero_add, Array.getElem?_append_left (by simpa using hlt)]
  simpa using hj

theorem Conc.sub {N : Nat} {ρ : Env} {T T0 : Tm} {M : Mm} {a : Act} {w : World} (hc : Conc N ρ T M a w) (h : ∀ d, getT T0 d = .und ∨ getT T0 d = getT T d) : Conc N ρ T0 M a w :=
  ⟨hc.toConcM, hc.sz, hc.defers, fun d => by
    rcases h d with h | h
    · rw [h]; exact RelT_of_Rel trivial
    · rw [h]; exact hc.tm d⟩

theorem sub3 {i j k : Nat} {A B C : SV} {T : Tm} (h0 : getT T i = A) (h1 : getT T j = B) (h2 : getT T k = C) : ∀ d, getT [(i, A), (j, B), (k, C)] d = .und ∨ getT [(i, A), (j, B), (k, C)] d = getT T d := by
  intro d
  by_cases e0 : d = i
  · subst e0; rw [getT_cons_self]; exact Or.inr h0.symm
  · rw [getT_cons_ne e0]
    by_cases e1 : d = j
    · subst e1; rw [getT_cons_self]; exact Or.inr h1.symm
    · rw [getT_cons_ne e1]
      by_cases e2 : d = k
      · subst e2; rw [getT_cons_self]; exact Or.inr h2.symm
      · rw [getT_cons_ne e2]; exact Or.inl rfl

/-! ## A world in which blocks that hold no cells have turned -/

theorem hard_kept {W W' : World} {row : Option Nat} {a : Addr} {v : Value} (h : W.cell? a = some v) (hg : W.grownBy W' row) (hr : ∀ r, row = some r → ∃ o : Obj, W.heap[r]? = some o ∧ o.isCells = false) : hard W' a = hard W a := by
  obtain ⟨o, ho, hc⟩ := cells_of_cell h
  have hne : some a.block ≠ row := by
    intro e
    obtain ⟨o', ho', hc'⟩ := hr a.block e.symm
    rw [ho] at ho'
    cases ho'
    rw [hc] at hc'; cases hc'
  have := hg.block a.block (Array.getElem?_eq_some_iff.1 ho).1 hne
  unfold hard
  rw [this]

/-- No maps among the names. -/
def noMap : Mm → Bool
  | [] => true
  | (_, e) :: r => (match e with
    | .map _ => false
    | _ => true) && noMap r
theorem noMap_get : ∀ {M : Mm}, noMap M = true → ∀ {a : Nat} {m : MpV}, getM M a ≠ some (.map m)
  | [], _, _, _, h => by simp [getM] at h
  | (b, e) :: r, hn, a, m, h => by
    simp only [noMap, Bool.and_eq_true] at hn
    by_cases hab : a = b
    · subst hab
      rw [getM_cons_self] at h
      simp only [Option.some.injEq] at h; subst h
      cases hn.1
    · rw [getM_cons_ne hab] at h
      exact noMap_get hn.2 h

theorem ConcM.turned {ρ : Env} {M : Mm} {W W' : World} {row : Option Nat} (h : ConcM ρ M W) (hg : W.grownBy W' row) (hr : ∀ r, row = some r → ∃ o : Obj, W.heap[r]? = some o ∧ o.isCells = false) (hnm : noMap M = true := by rfl) : ConcM ρ M W' := by
  refine ⟨h.dom, h.mod, fun a e he => ?_, h.sep, fun b o ls hi => ?_, h.isep⟩
  · have hs := h.sat a e he
    cases e with
    | dead => trivial
    | mem own sp ls =>
      obtain ⟨cs, h1, h2, h3, h4⟩ := hs
      refine ⟨cs, h1, ⟨fun hn => Nat.lt_of_lt_of_le (h2.1 hn) hg.size, h2.2⟩, fun j v hj => cell_kept (h3 j v hj) hg hr, fun ho j hj => ?_⟩
      obtain ⟨⟨v, hv⟩, hh⟩ := h4 ho j hj
      exact ⟨⟨v, cell_kept hv hg hr⟩, by rw [hard_kept hv hg hr]; exact hh⟩
    | map m =>
      exact absurd he (noMap_get hnm)
  · obtain ⟨h1, cs, h2, h3⟩ := h.imm b o ls hi
    exact ⟨fun hn => Nat.lt_of_lt_of_le (h1 hn) hg.size, cs, h2, fun j v hj => cell_kept (h3 j v hj) hg hr⟩

theorem Step.turned {ρ ρ' : Env} {M M' : Mm} {w W W' : World} {row : Option Nat} (h : Step ρ M ρ' M' w W) (hg : W.grownBy W' row) (hr : ∀ r, row = some r → w.heap.size ≤ r) : Step ρ M ρ' M' w W' := by
  have key : ∀ b, b < w.heap.size → W'.heap[b]? = W.heap[b]? := fun b hb =>
    hg.block b (Nat.lt_of_lt_of_le hb h.size) fun e => by have := hr b e.symm; omega
  refine ⟨Nat.le_trans h.size hg.size, hg.os.trans h.os, hg.output.trans h.output, fun b hb ho => (key b hb).trans (h.blk b hb ho), fun b o hb ho => ?_, h.own, h.immo⟩
  obtain ⟨h1, h2⟩ := h.cell b o hb ho
  refine ⟨?_, ?_⟩
  · rw [← h1]; exact World.cell?_of_block (key b hb)
  · rw [← h2]; unfold hard; rw [key b hb]

theorem owns_cell {ρ : Env} {M : Mm} {w : World} (hM : ConcM ρ M w) (hnm : noMap M = true) {b o : Nat} (h : Owns ρ M b o) : ∃ v, w.cell? ⟨b, o, none⟩ = some v := by
  obtain ⟨a, e, he, hown, hf⟩ := h
  have hs := hM.sat a e he
  cases e with
  | dead => cases hown
  | map m => exact absurd he (noMap_get hnm)
  | mem own sp ls =>
    cases own with
    | false => cases hown
    | true =>
      obtain ⟨f1, f2, f3⟩ := hf
      simp only [if_true] at f3
      obtain ⟨cs, h1, h2, h3, h4⟩ := hs
      obtain ⟨⟨v, hv⟩, _⟩ := h4 rfl (o - (ρ.pos a).2) (by omega)
      refine ⟨v, ?_⟩
      rw [f1]
      rw [show (ρ.pos a).2 + (o - (ρ.pos a).2) = o by omega] at hv
      exact hv

theorem Step.others {ρ ρ' : Env} {M M' : Mm} {w w' : World} (h : Step ρ M ρ' M' w w') (hM : ConcM ρ M w) (hnm : noMap M = true := by rfl) : KeepsOthers w w' := by
  refine ⟨h.size, fun k o hk ho => ?_⟩
  rw [h.blk k (Array.getElem?_eq_some_iff.1 hk).1 fun j hj => ?_]
  · exact hk
  · obtain ⟨v, hv⟩ := owns_cell hM hnm hj
    obtain ⟨o', ho', hc⟩ := cells_of_cell hv
    rw [hk] at ho'
    cases ho'
    rw [ho] at hc; cases hc

/-! ## Deferred marks -/

theorem put_defers' (a : Act) (D : List Deferred) (d : Option Nat) (v : Value) : ({ a with defers := D } : Act).put d v = { a.put d v with defers := D } := by
  cases d <;> rfl

theorem upon_marks {n : Nat} {P : Program} {o : Oper} (ho : ∀ c, o.op ≠ .defer c) {D : List Deferred} {a : Act} {K : Act → World → Prop} {Q Q' : Exit → Act → World → Prop} (hpa : ∀ c a w, ¬ Q (.panic c) a w) (hlo : ¬ LetsOut Q) {w : World} (hnd : ∀ d w', (execOp a.eval o).run P w ≠ .ok (.defer d) w')
    (h : o.upon P a K Q ((execOp a.eval o).run P w)) : o.uponIn Fence.wide n P { a with defers := D } (fun a' w' => ∃ a0, K a0 w' ∧ a' = { a0 with defers := D }) Q' ((execOp a.eval o).run P w) := by
  generalize hr : (execOp a.eval o).run P w = r at *
  cases r with
  | ok nx w' =>
    cases nx with
    | value v => exact ⟨_, h, put_defers' a D o.dst v⟩
    | skip => exact ⟨_, h, put_defers' a D o.dst undef⟩
    | defer d => exact absurd rfl (hnd d w')
    | enter f args =>
      refine ⟨fun hd => by simp [Fence.wide] at hd, callsIn_wide.2 (Calls.mono h ?_)⟩
      intro e w'' he
      cases e with
      | returned v => exact ⟨_, he, put_defers' a D o.dst v⟩
      | panicked c => exact absurd he (hpa c _ _)
      | outgrown => exact absurd he hlo
    | row row args => exact ⟨fun hd => by simp [Fence.wide] at hd, fun c cs _ => let ⟨v, w'', r, s⟩ := h c cs; ⟨v, w'', ⟨_, r, put_defers' a D o.dst v⟩, stepsIn_wide.2 s⟩⟩
    | _ => exact h.elim
  | halt x w' =>
    cases x with
    | panic v => exact absurd h (hpa _ _ _)
    | _ => exact h.elim

theorem wpList_marks {n : Nat} {P : Program} {ops : Array Oper} {D : List Deferred} {Q : Exit → Act → World → Prop} (hpa : ∀ c a w, ¬ Q (.panic c) a w) (hlo : ¬ LetsOut Q) : ∀ {r : List Oper}, (∀ o ∈ r, (∀ c, o.op ≠ .defer c) ∧ ∀ (ev : Operand → Value) w d w', (execOp ev o).run P w ≠ .ok (.defer d) w') →
    ∀ {a : Act} {w : World}, wpList P ops Q r a w → wpListIn Fence.wide n P ops (fun e a' w' => ∃ a0, Q e a0 w' ∧ a' = { a0 with defers := D }) r { a with defers := D } w
  | [], _, a, w, h => ⟨a, h, rfl⟩
  | o :: r, hd, a, w, h => by
    unfold wpList at h
    unfold wpListIn
    have ih : ∀ a' w', (∃ a0, wpList P ops Q r a0 w' ∧ a' = { a0 with defers := D }) → wpListIn Fence.wide n P ops (fun e a' w' => ∃ a0, Q e a0 w' ∧ a' = { a0 with defers := D }) r a' w' := by
      rintro a' w' ⟨a0, h, rfl⟩
      exact wpList_marks hpa hlo (fun o' ho' => hd o' (by simp [ho'])) h
    split at h
    · rename_i hw
      rw [if_pos hw]
      rcases h with h | ⟨_, h⟩
      · refine Oper.wpIn_mono ih ⟨fun _ _ => trivial, ?_⟩
        rw [Oper.semAt_eq _ _ _ (hd o (by simp)).1]
        exact upon_marks (hd o (by simp)).1 hpa hlo ((hd o (by simp)).2 _ _) h
      · exact absurd h hlo
    · rename_i hw
      rw [if_neg hw]
      refine ⟨fun _ _ => trivial, ih _ _ ⟨_, h, ?_⟩⟩
      exact put_defers' a D o.dst undef

theorem load_nd {P : Program} {o : Oper} {t : TypeId} {x : Operand} (h : o.op = .load t x) : (∀ c, o.op ≠ .defer c) ∧ ∀ (ev : Operand → Value) w d w', (execOp ev o).run P w ≠ .ok (.defer d) w' := by
  refine ⟨fun c hc => (by rw [h] at hc; cases hc), fun ev w d w' hr => ?_⟩
  simp only [execOp, h, Sem.run_bind] at hr
  cases hq : (Instr.loadAt t (ev x)).run P w with
  | ok v w2 => rw [hq] at hr; simp [Result.andThen] at hr
  | halt q w2 => rw [hq] at hr; simp [Result.andThen] at hr
theorem store_nd {P : Program} {o : Oper} {t : TypeId} {x y : Operand} (h : o.op = .store t x y) : (∀ c, o.op ≠ .defer c) ∧ ∀ (ev : Operand → Value) w d w', (execOp ev o).run P w ≠ .ok (.defer d) w' := by
  refine ⟨fun c hc => (by rw [h] at hc; cases hc), fun ev w d w' hr => ?_⟩
  simp only [execOp, h, Sem.run_bind] at hr
  cases hq : (Instr.storeAt t (ev x) (ev y)).run P w with
  | ok v w2 => rw [hq] at hr; simp [Result.andThen] at hr
  | halt q w2 => rw [hq] at hr; simp [Result.andThen] at hr

/-- A region, outside of rounds. -/
theorem region_wide {Γ : Cfg} {N : Nat} {Kn : List Nat} {ρA : Env} {n : Nat} {id : Nat} {ops : Array Oper} {draw : Bool} (hok : dstOK N ops.toList = true) {T : Tm} {M : Mm} {K : Tm → Mm → Prop} {ρ : Env} {a : Act} {w : World} {Q : Exit → Act → World → Prop}
    (h : regionP Γ id ops draw T M K) (hc : Conc N ρ T M a w) (ha : Anch Kn ρA ρ) (hQ : ∀ ρ' T' M' a' w', K T' M' → Conc N ρ' T' M' a' w' → Anch Kn ρA ρ' → Step ρ M ρ' M' w w' → Q .normal a' w') :
    (Code.region id ops draw).wpIn Fence.wide n Γ.P Q a w := by
  have := regionP_sound (Γ := Γ) (N := N) (Kn := Kn) (id := id) (draw := draw) hok (Q := fun e => match e with
    | .normal => K
    | _ => fun _ _ => False) h hc ha
  refine wpIn_mono (wpIn_wide.2 this) ?_
  rintro e a' w' ⟨ρ', T', M', hk, h2, h3, h4⟩
  cases e with
  | normal => exact hQ ρ' T' M' a' w' hk h2 h3 h4
  | _ => exact hk.elim

/-- A region, outside of rounds; the state is told anew behind it. -/
theorem region_le {Γ : Cfg} {N : Nat} {Kn : List Nat} {ρA : Env} {n : Nat} {id : Nat} {ops : Array Oper} {draw : Bool} (T0 : Tm) (M0 : Mm) (hok : dstOK N ops.toList = true) {T : Tm} {M : Mm} {ρ : Env} {a : Act} {w : World} {Q : Exit → Act → World → Prop}
    (h : regionP Γ id ops draw T M (fun T' M' => Le Kn T0 M0 T' M')) (hc : Conc N ρ T M a w) (ha : Anch Kn ρA ρ) (hQ : ∀ ρ' a' w', Conc N ρ' T0 M0 a' w' → Anch Kn ρA ρ' → Step ρ M ρ' M0 w w' → Q .normal a' w') :
    (Code.region id ops draw).wpIn Fence.wide n Γ.P Q a w :=
  region_wide hok h hc ha fun ρ' T' M' a' w' hk h2 h3 h4 => by
    obtain ⟨ρ0, l1, l2, l3⟩ := hk.sound h2 h3
    exact hQ ρ0 a' w' l1 l2 (h4.trans l3)

theorem Anch.trans' {Kn : List Nat} {a b c : Env} (h : Anch Kn a b) (k : Anch Kn b c) : Anch Kn a c :=
  ⟨fun x hx => ⟨(k.to x hx).1, (k.to x hx).2.trans (h.to x hx).2⟩, fun b o ls hi => k.im b o ls (h.im b o ls hi)⟩

theorem Conc.world {N : Nat} {ρ : Env} {T : Tm} {M : Mm} {a : Act} {w w' : World} (hc : Conc N ρ T M a w) (h : ConcM ρ M w') : Conc N ρ T M a w' := ⟨h, hc.sz, hc.defers, hc.tm⟩

end Go.Sx
