/- A symbolic executor over the code of this model: part 7. No condition. -/
import Derived.Test.YtniijmdkccbnlaaHx6
set_option linter.unusedSimpArgs false
set_option linter.unusedVariables false
namespace Go.Sx
open Go Go.ChangeShapes Go.WideShapes Go.ChangeAt Go.RowKit

/-- What stands for the values of a type that came in, whatever the world. -/
def Takes (P : Program) (t : TypeId) (F : SV → Prop) : Prop :=
  ∀ (H : Type) (enc : TypeId × Value → H) (w : World) (base : Nat) (v : Value) (d : DataW H) (ps : List MemPlace),
    Value.okWide P w .any base t v → DataW.Trod enc P w 0 (fun _ => true) true t v d ps → ∃ s, F s ∧ Rel (envW w 8) s v

def TakesL (P : Program) : List TypeId → List (SV → Prop) → Prop
  | [], [] => True
  | t :: ts, F :: Fs => Takes P t F ∧ TakesL P ts Fs
  | _, _ => False

def AllF : List (SV → Prop) → List SV → Prop
  | [], [] => True
  | F :: Fs, s :: ss => F s ∧ AllF Fs ss
  | _, _ => False

theorem take_all {P : Program} {H : Type} {enc : TypeId × Value → H} {w : World} {base : Nat} : ∀ {ts : List TypeId} {Fs : List (SV → Prop)} {vs : List Value} {ds : List (DataW H)} {ps : List MemPlace},
    TakesL P ts Fs → (∀ (j : Nat) t v, ts[j]? = some t → vs[j]? = some v → Value.okWide P w .any base t v) →
    DataW.TrodAll enc P w 0 (fun _ => true) true ts vs ds ps → ∃ svs, AllF Fs svs ∧ RelL (envW w 8) svs vs ∧ ds.length = ts.length
  | [], [], vs, ds, ps, _, _, h => by
    obtain ⟨rfl, rfl, rfl⟩ := trodAll_nil h
    exact ⟨[], trivial, rfl, rfl⟩
  | t :: ts, F :: Fs, vs, ds, ps, ⟨h1, h2⟩, hv, h => by
    obtain ⟨v, vs', d, ds', p, q, rfl, rfl, rfl, h3, h4⟩ := trodAll_cons h
    obtain ⟨s, hs, hr⟩ := h1 H enc w base v d p (hv 0 t v rfl rfl) h3
    obtain ⟨ss, hss, hrs, hd⟩ := take_all h2 (fun j t v h5 h6 => hv (j + 1) t v (by simpa using h5) (by simpa using h6)) h4
    exact ⟨s :: ss, ⟨hs, hss⟩, ⟨v, vs', rfl, hr, hrs⟩, by simp [hd]⟩
  | [], _ :: _, _, _, _, h, _, _ => h.elim
  | _ :: _, [], _, _, _, h, _, _ => h.elim

def isArr8 (n : Nat) (s : SV) : Prop := ∃ l : List UInt8, l.length = n ∧ s = .a8 l
def isSl8 (es : Nat) (s : SV) : Prop := ∃ (n : Nat) (l : List UInt8), l.length = n * es ∧ n ≤ maxLen ∧ s = .isl 0 n es [(n * es, .a8 l)]
def isInt (k : IntKind) (s : SV) : Prop := ∃ n : Int, (Lit.int k n).wf = true ∧ s = .i k n
def isBool (s : SV) : Prop := ∃ b : Bool, s = .bool (b = true)
def isU8 (s : SV) : Prop := ∃ x : UInt8, s = .u8 x
def isU16 (s : SV) : Prop := ∃ x : UInt16, s = .u16 x
def isU32 (s : SV) : Prop := ∃ x : UInt32, s = .u32 x
def isU64 (s : SV) : Prop := ∃ x : UInt64, s = .u64 x
def isStr (s : SV) : Prop := ∃ l : List UInt8, l.length ≤ maxLen ∧ s = .str l

section
variable {P : Program}
theorem takes_arr8 {t e n : Nat} (ht : P.underlying t = some (.array n e)) (he : P.underlying e = some (.int .u8)) (hc : P.cellsOf e = 1) (hct : P.cellsOf t = n) : Takes P t (isArr8 n) := by
  intro H enc w base v d ps hv h
  unfold Value.okWide at hv
  rw [ht] at hv
  obtain ⟨cs, rfl, _⟩ := hv
  obtain ⟨fuel, h⟩ := h
  obtain ⟨l, hl, hcs⟩ := trod_arr8 ht he hc hct h
  refine ⟨.a8 l, ⟨l, hl, rfl⟩, ?_⟩
  show Value.agg cs = .agg (l.map w8).toArray
  congr 1
  apply Array.ext'
  simpa [Value.cells] using hcs

theorem takes_int {t : Nat} {k : IntKind} (ht : P.underlying t = some (.int k)) : Takes P t (isInt k) := by
  intro H enc w base v d ps hv h
  obtain ⟨n, rfl, _, _, hw⟩ := open_int ht hv h
  exact ⟨.i k n, ⟨n, hw, rfl⟩, rfl⟩

theorem takes_bool {t : Nat} (ht : P.underlying t = some .bool) : Takes P t isBool := by
  intro H enc w base v d ps hv h
  obtain ⟨b, rfl, _⟩ := open_bool ht hv h
  exact ⟨_, ⟨b, rfl⟩, b, rfl, Iff.rfl⟩

theorem takes_u8 {t : Nat} (ht : P.underlying t = some (.int .u8)) : Takes P t isU8 := by
  intro H enc w base v d ps hv h
  obtain ⟨n, rfl, _, _, hw⟩ := open_int ht hv h
  obtain ⟨x, hx⟩ := w8_of_wf hw
  exact ⟨_, ⟨x, rfl⟩, hx⟩

theorem takes_str {t : Nat} (ht : P.underlying t = some .string) : Takes P t isStr := by
  intro H enc w base v d ps hv h
  obtain ⟨s, rfl⟩ := okWide_string ht hv
  obtain ⟨fuel, h⟩ := h
  obtain ⟨s', h', _, hs⟩ := DataW.trod_string ht h
  obtain rfl : s = s' := by simpa [Value.cells] using h'
  exact ⟨.str s.data.toList, ⟨_, by rw [Array.length_toList]; exact hs, rfl⟩, by show Value.string s = .string ⟨s.data.toList.toArray⟩; simp⟩

/-- A slice of bytes, or of rows of bytes: its one cell. -/
theorem slice_cells {t e es : Nat} (k : Nat) (ht : P.underlying t = some (.slice e)) (hes : P.cellsOf e = es) (hpos : 0 < es)
    {H : Type} {enc : TypeId × Value → H} {w : World}
    (hel : ∀ (fuel : Nat) (ce : List Value) (y : DataW H × List MemPlace), DataW.trod enc P w 0 (fun _ => true) true fuel e ce = some y → ∀ j, j < es → ∃ x : UInt8, ce[j]? = some (w8 x))
    {fuel : Nat} {c : List Value} {y : DataW H × List MemPlace} (h : DataW.trod enc P w 0 (fun _ => true) true fuel t c = some y) : ∃ s v, isSl8 es s ∧ c = [v] ∧ RelS (envW w (k + 1)) s v := by
  rcases trod_sl ht (by omega) h with h0 | ⟨a', len, cap', b, o, hcs, hl, hm, ha, hels⟩
  · exact ⟨_, _, ⟨0, [], by simp, by simp [maxLen], rfl⟩, h0, 0, 0, 0, none, Or.inr ⟨by simp, rfl, trivial⟩, Nat.le_refl _, rfl, fun hh => absurd rfl hh⟩
  · rw [hes] at hels
    have hcell : ∀ k, k < len * es → ∃ x : UInt8, w.cell? ⟨b, o + k, none⟩ = some (w8 x) := by
      intro k hk
      obtain ⟨h1, h2, h3⟩ := row_index hk
      obtain ⟨ce, fu, y, hce, hc, hy⟩ := hels (k / es) h1
      obtain ⟨x, hx⟩ := hel fu ce y hy (k % es) h2
      refine ⟨x, ?_⟩
      have := hc (k % es) h2
      rw [h3] at this
      rw [this, hx]
    obtain ⟨l, hll, hlc⟩ := list_of_cells w8 (w := w) (b := b) (o := o) (len * es) hcell
    refine ⟨_, _, ⟨len, l, hll, by omega, rfl⟩, hcs, b, o, cap', some a', ?_, hl, rfl, fun hc => ?_⟩
    · by_cases h0 : len * es = 0
      · refine Or.inr ⟨h0, ?_, trivial⟩
        exact List.length_eq_zero_iff.1 (by omega)
      · refine Or.inl ⟨fun _ => (ha (fun hc => h0 ?_)).2, l.map w8, ⟨l.map w8, [], by simp, by simp [hll], rfl, rfl⟩, hlc⟩
        have : len = 0 := by omega
        rw [this, Nat.zero_mul]
    · rw [(ha hc).1]; simp

/-- A slice of bytes, or of rows of bytes. -/
theorem takes_slice {t e es : Nat} (ht : P.underlying t = some (.slice e)) (hes : P.cellsOf e = es) (hpos : 0 < es)
    (hel : ∀ (H : Type) (enc : TypeId × Value → H) (w : World) (fuel : Nat) (ce : List Value) (y : DataW H × List MemPlace), DataW.trod enc P w 0 (fun _ => true) true fuel e ce = some y → ∀ j, j < es → ∃ x : UInt8, ce[j]? = some (w8 x)) : Takes P t (isSl8 es) := by
  intro H enc w base v d ps hv h
  obtain ⟨fuel, h⟩ := h
  obtain ⟨a, n, cap, rfl⟩ := okWide_slice ht hv
  obtain ⟨s, v', hs, hc, hr⟩ := slice_cells 7 ht hes hpos (hel H enc w) h
  have : Value.slice a n cap = v' := by simpa [Value.cells] using hc
  obtain ⟨n', l, h1, h2, rfl⟩ := hs
  refine ⟨_, ⟨n', l, h1, h2, rfl⟩, ?_⟩
  rw [this]
  exact hr

/-- A slice of slices of bytes. -/
def rowS (l : List UInt8) : SV := .isl 0 l.length 1 [(l.length * 1, .a8 l)]
def isSlSl (s : SV) : Prop := ∃ (n : Nat) (L : Nat → List UInt8), (∀ q, q < n → (L q).length ≤ maxLen) ∧ n ≤ maxLen ∧ s = .isl 0 n 1 [(n * 1, .arr n 1 fun q => [(1, rowS (L q))])]
theorem takes_slSl {t e u : Nat} (ht : P.underlying t = some (.slice e)) (he : P.underlying e = some (.slice u)) (hce : P.cellsOf e = 1) (hu : P.underlying u = some (.int .u8)) (hcu : P.cellsOf u = 1) : Takes P t isSlSl := by
  intro H enc w base v d ps hv h
  obtain ⟨fuel, h⟩ := h
  obtain ⟨a, n, cap, rfl⟩ := okWide_slice ht hv
  have hel : ∀ (fuel : Nat) (ce : List Value) (y : DataW H × List MemPlace), DataW.trod enc P w 0 (fun _ => true) true fuel u ce = some y → ∀ j, j < 1 → ∃ x : UInt8, ce[j]? = some (w8 x) := by
    intro fuel ce y h j hj
    obtain ⟨k, hk, _, hw⟩ := DataW.trod_int hu h
    obtain ⟨x, hx⟩ := w8_of_wf hw
    obtain rfl : j = 0 := by omega
    exact ⟨x, by rw [hk, hx]; rfl⟩
  rcases trod_sl ht (by omega) h with h0 | ⟨a', len, cap', b, o, hcs, hl, hm, ha, hels⟩
  · have : Value.slice a n cap = .slice none 0 0 := by simpa [Value.cells] using h0
    cases this
    refine ⟨_, ⟨0, fun _ => [], fun q hq => absurd hq (Nat.not_lt_zero _), by simp [maxLen], rfl⟩, 0, 0, 0, none, Or.inr ⟨by simp, rfl, trivial⟩, Nat.le_refl _, rfl, fun hh => absurd rfl hh⟩
  · have hx : Value.slice a n cap = .slice (some a') len cap' := by simpa [Value.cells] using hcs
    cases hx
    rw [hce] at hels
    have hq : ∀ q : Nat, ∃ sv : List UInt8 × Value, q < n → sv.1.length ≤ maxLen ∧ w.cell? ⟨b, o + q, none⟩ = some sv.2 ∧ RelS (envW w (6 + 1)) (rowS sv.1) sv.2 := by
      intro q
      by_cases hlt : q < n
      · obtain ⟨ce, fu, y, hcl, hc, hy⟩ := hels q hlt
        obtain ⟨s, v, h1, h2, h3⟩ := slice_cells 6 he hcu (by omega) hel hy
        obtain ⟨n', l, h4, h5, rfl⟩ := h1
        obtain rfl : n' = l.length := by omega
        refine ⟨(l, v), fun _ => ⟨h5, ?_, h3⟩⟩
        have := hc 0 (by omega)
        rw [h2, Nat.mul_one, Nat.add_zero] at this
        exact this
      · exact ⟨([], .bool false), fun h => absurd h hlt⟩
    obtain ⟨S, hS⟩ := Classical.axiomOfChoice hq
    refine ⟨_, ⟨n, fun q => (S q).1, fun q h => (hS q h).1, by omega, rfl⟩, b, o, cap, some a', ?_, hl, rfl, fun hc => ?_⟩
    · by_cases h0 : n = 0
      · subst h0
        exact Or.inr ⟨rfl, rfl, trivial⟩
      · refine Or.inl ⟨fun _ => (ha (fun hc => h0 (by omega))).2, (List.range n).map fun q => (S q).2, ⟨(List.range n).map fun q => (S q).2, [], by simp, by simp, ⟨by simp, fun q hq => ?_⟩, rfl⟩, fun j v hj => ?_⟩
        · refine ⟨[(S q).2], [], ?_, rfl, ?_, rfl⟩
          · rw [Nat.mul_one]
            have hlt : q < ((List.range n).map fun q => (S q).2).length := by simpa using hq
            rw [List.drop_eq_getElem_cons hlt]
            simp
          · obtain ⟨h1, h2, h3⟩ := hS q hq
            exact ⟨_, h3, rfl⟩
        · have hlt := (List.getElem?_eq_some_iff.1 hj).1
          simp only [List.length_map, List.length_range] at hlt
          obtain ⟨h1, h2, h3⟩ := hS j hlt
          rw [List.getElem?_map, List.getElem?_range hlt] at hj
          simp only [Option.map_some, Option.some.injEq] at hj
          rw [h2, hj]
    · rw [(ha hc).1]; simp

theorem takes_sl8 {t e : Nat} (ht : P.underlying t = some (.slice e)) (he : P.underlying e = some (.int .u8)) (hc : P.cellsOf e = 1) : Takes P t (isSl8 1) := by
  refine takes_slice ht hc (by omega) fun H enc w fuel ce y h j hj => ?_
  obtain ⟨k, hk, _, hw⟩ := DataW.trod_int he h
  obtain ⟨x, hx⟩ := w8_of_wf hw
  obtain rfl : j = 0 := by omega
  exact ⟨x, by rw [hk, hx]; rfl⟩

theorem takes_slArr8 {t e u n : Nat} (ht : P.underlying t = some (.slice e)) (he : P.underlying e = some (.array n u)) (hu : P.underlying u = some (.int .u8)) (hcu : P.cellsOf u = 1) (hce : P.cellsOf e = n) (hpos : 0 < n) : Takes P t (isSl8 n) := by
  refine takes_slice ht hce hpos fun H enc w fuel ce y h j hj => ?_
  obtain ⟨l, hl, rfl⟩ := trod_arr8 he hu hcu hce h
  exact ⟨l[j]'(by omega), by simp [List.getElem?_eq_getElem (show j < l.length by omega)]⟩
end

/-- A law over arguments that nobody owns. -/
theorem law_row {C : Checked} {f : FuncId} {fn : Func} {s : ChangeSpec} {apart fresh handsOn again : Bool} {H : Type} {enc : TypeId × Value → H} {tb : TypeId} {Fs : List (SV → Prop)} {ts : List TypeId}
    {W : World} {base : Nat} {args : Array Value} {ds gs : List (DataW H)} {before : List MemPlace}
    (hl : laidOutB C.prog = true) (hps : fn.params.toList = ts) (hread : (ts.all fun t => C.prog.readableRec t && decide (t < C.prog.types.size)) = true) (hvars : s.vars = []) (hT : TakesL C.prog ts Fs)
    (hspec : ∀ ds : List (DataW H), ds.length = ts.length → s.fn H ds = { results := [.lit (.bool true)], args := ds }) (hrt : fn.resultTypes = #[tb]) (htb : C.prog.underlying tb = some .bool)
    (hf : ∀ svs, AllF Fs svs → Sx.Fn C.prog f svs [] (fun v _ => v = .tt))
    (hval : ∀ (j : Nat) t v, fn.params[j]? = some t → args[j]? = some v → Value.okWide C.prog W .any base t v)
    (hW : DataW.Whole enc C.prog fn.params.toList s.vars apart W args.toList ds gs before) :
    Calls C.prog f args W fun e W' => ∃ v, e = .returned v ∧ s.post enc C.prog fn apart fresh handsOn again W args v W' := by
  have hW0 := hW
  rw [hvars] at hW0
  obtain ⟨p, q, hA, hV, rfl, hfz, hnd⟩ := hW0
  obtain ⟨rfl, rfl⟩ := trodVars_none hV
  rw [hps] at hA
  obtain ⟨svs, hF, hR, hd⟩ := take_all hT (fun j t v h1 h2 => hval j t v (by rw [← Array.getElem?_toList, hps]; exact h1) (by rw [← Array.getElem?_toList]; exact h2)) hA
  refine law_close (ρ := envW W 8) (M0 := []) (R := fun v _ => v = .tt) hl (by rw [hps]; exact fun t ht => by have := List.all_eq_true.1 hread t ht; simpa using this) hvars ?_ hrt htb (envW_conc W 8) (envW_owns W 8) hR (hf svs hF) (fun _ _ h => h) hW
  have := hspec (ds ++ []) (by simpa using hd)
  simpa using this

end Go.Sx
