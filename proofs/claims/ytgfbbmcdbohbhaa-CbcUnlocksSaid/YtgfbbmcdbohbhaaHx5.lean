/- A symbolic executor over the code of this model: part 5. No condition. -/
import Derived.Test.YtgfbbmcdbohbhaaHx4
import Derived.Tactics
set_option linter.unusedSimpArgs false
set_option linter.unusedVariables false
namespace Go.Sx
open Go

@[irreducible] def Side (ps : List Prop) (K : Prop) : Prop := AllP ps ∧ K
theorem Side.intro {ps : List Prop} {K : Prop} (h : AllP ps) (k : K) : Side ps K := by unfold Side; exact ⟨h, k⟩
theorem Side.all {ps : List Prop} {K : Prop} (h : Side ps K) : All ps := by unfold Side at h; exact AllP_iff h.1
theorem Side.rest {ps : List Prop} {K : Prop} (h : Side ps K) : K := by unfold Side at h; exact h.2

def withP (ps : List Prop) (K : Prop) : Prop :=
  match ps with
  | [] => K
  | p :: r => Side (p :: r) K
theorem withP.all {ps : List Prop} {K : Prop} (h : withP ps K) : All ps := by
  cases ps with
  | nil => exact All.nil
  | cons p r => exact Side.all h
theorem withP.rest {ps : List Prop} {K : Prop} (h : withP ps K) : K := by
  cases ps with
  | nil => exact h
  | cons p r => exact Side.rest h

@[irreducible] def Branch (p A B : Prop) : Prop := (p → A) ∧ (¬ p → B)
theorem Branch.intro {p A B : Prop} (h : p → A) (k : ¬ p → B) : Branch p A B := by unfold Branch; exact ⟨h, k⟩
theorem Branch.yes {p A B : Prop} (h : Branch p A B) (hp : p) : A := by unfold Branch at h; exact h.1 hp
theorem Branch.no {p A B : Prop} (h : Branch p A B) (hp : ¬ p) : B := by unfold Branch at h; exact h.2 hp

@[irreducible] def Call (P : Program) (f : FuncId) (args : List SV) (M : Mm) (K : SV → Mm → Prop) : Prop := CallX P f args M K
theorem Call.out {P : Program} {f : FuncId} {args : List SV} {M : Mm} {K : SV → Mm → Prop} (h : Call P f args M K) : CallX P f args M K := by unfold Call at h; exact h

/-- Arguments that lie for good, and nil slices, are given names ahead of the call (0: it stays as it is). -/
theorem Call.name {P : Program} {f : FuncId} {args : List SV} {M : Mm} {K : SV → Mm → Prop} (nms : List (Nat × List (Nat × SV))) {ps : List Prop} {args' : List SV} {M' : Mm} (h1 : nameA nms args M = some (ps, args', M')) (h2 : AllP ps)
    (h3 : CallP P f args' M' K) : Call P f args M K := by
  unfold Call; exact ⟨nms, ps, args', M', h1, h2, h3⟩

theorem CallP.intro {P : Program} {f : FuncId} {args : List SV} {M : Mm} {K : SV → Mm → Prop} {args0 : List SV} {M0 : Mm} {R : SV → Mm → Prop} (h : Fn P f args0 M0 R) (μ : Nm) {ps qs : List Prop}
    (h1 : argsSame μ args0 args = some ps) (h2 : AllP ps) (h3 : viewsM μ M M0 = some qs) (h4 : AllP qs) (h5 : namesOK μ M M0 = true) (h6 : ∀ v M', R v M' → K (ren μ v) (afterM μ M M0 M' μ)) :
    CallP P f args M K := ⟨args0, M0, R, μ, ps, qs, h, h1, h2, h3, h4, h5, h6⟩

/-- A call by a contract: how the contract's names stand for the caller's. -/
theorem Call.intro {P : Program} {f : FuncId} {args : List SV} {M : Mm} {K : SV → Mm → Prop} {args0 : List SV} {M0 : Mm} {R : SV → Mm → Prop} (h : Fn P f args0 M0 R) (μ : Nm) {ps qs : List Prop}
    (h1 : argsSame μ args0 args = some ps) (h2 : AllP ps) (h3 : viewsM μ M M0 = some qs) (h4 : AllP qs) (h5 : namesOK μ M M0 = true) (h6 : ∀ v M', R v M' → K (ren μ v) (afterM μ M M0 M' μ)) :
    Call P f args M K := by
  unfold Call; exact ⟨[], [], args, M, rfl, trivial, args0, M0, R, μ, ps, qs, h, h1, h2, h3, h4, h5, h6⟩

/-- A call of a function that touches no memory of the caller's and hands none back. -/
theorem Call.pure {P : Program} {f : FuncId} {args args0 : List SV} {M : Mm} {K : SV → Mm → Prop} {R : SV → Prop} (h : Fn P f args0 [] (fun v _ => R v)) {ps : List Prop}
    (h1 : argsSame [] args0 args = some ps) (h2 : AllP ps) (h6 : ∀ v, R v → K (ren [] v) M) : Call P f args M K :=
  Call.intro h [] h1 h2 rfl trivial rfl fun v _ hR => h6 v hR

def callOK (P : Program) (g : FuncId) : Bool :=
  match P.funcs[g]? with
  | some fn => !(fn.name == "runtime.NumGoroutine") && fn.body.isSome
  | none => false

structure Cfg extends Ctx where
  calls : List Nat
  callsOK : (calls.all fun g => callOK P g) = true

def evL (T : Tm) : List Operand → List SV
  | [] => []
  | x :: r => ev T x :: evL T r

def capL : List (Nat × Nat) → List SV
  | [] => []
  | (a, f) :: r => .ptr a f none :: capL r

def putT (dst : Option Nat) (v : SV) (T : Tm) : Tm :=
  match dst with
  | some d => (d, v) :: T
  | none => T

def isCopy : Builtin → Bool
  | .copy => true
  | _ => false

def isAppend : Builtin → Bool
  | .append => true
  | _ => false

def noParts (len : Nat) (parts : List (Nat × Operand)) : Bool :=
  match len with
  | 0 => match parts with
    | [] => true
    | _ => false
  | _ => true

/-- The string whose bytes are made a slice. -/
def strOf (ty : Nat → Ty) (s e : Nat) (v : SV) : Option (List UInt8) :=
  match (ty s).k with
  | .string => match (ty e).k with
    | .int .u8 => match v with
      | .str l => some l
      | _ => none
    | _ => none
  | _ => none

def isByte (k : TyK) : Bool :=
  match k with
  | .int .u8 => true
  | _ => false

/-- Bytes that are written out, made the bytes that they are. -/
def markArg (M : Mm) (s t : Nat) (k : TyK) (v : SV) : Option SV :=
  match v with
  | .sl a f i n c => match getM M a with
    | some (.mem true sp ls) => bif Nat.beq s t && (isByte k && (Nat.blt 0 n && Nat.blt 0 (sizeL ls + sp))) then some (.sl a f i n c) else none
    | _ => none
  | _ => none

theorem markArg_some {M : Mm} {s t : Nat} {k : TyK} {v v' : SV} (h : markArg M s t k v = some v') : ∃ a f i n c sp ls, v = .sl a f i n c ∧ v' = .sl a f i n c ∧ getM M a = some (.mem true sp ls) ∧ s = t ∧ k = .int .u8 ∧ 0 < n ∧ 0 < sizeL ls + sp := by
  unfold markArg at h
  split at h
  · rename_i a f i n c
    split at h
    · rename_i sp ls hm
      rcases bif_some h with ⟨hb, h⟩ | ⟨_, h⟩
      · simp only [Bool.and_eq_true] at hb
        simp only [Option.some.injEq] at h
        refine ⟨a, f, i, n, c, sp, ls, rfl, h.symm, hm, beq_eq' hb.1, ?_, u_lt_of hb.2.2.1, u_lt_of hb.2.2.2⟩
        have := hb.2.1
        unfold isByte at this
        split at this
        · rfl
        · cases this
      · cases h
    · cases h
  · cases h

/-- One operation: K is handed what must hold, the value, and the memory. -/
def effOp (Γ : Cfg) (o : Oper) (T : Tm) (M : Mm) (ps : List Prop) (K : List Prop → SV → Mm → Prop) : Prop :=
  match o.op with
  | .alloc t => match o.dst with
    | some d => match getM M d with
      | none => match (Γ.ty t).k with
        | .bad => False
        | _ => match (Γ.ty t).zl with
          | [] => False
          | zl => K ps (.ptr d 0 none) ((d, .mem true 0 zl) :: M)
      | some _ => False
    | none => False
  | .box t x => match o.dst with
    | some d => match getM M d with
      | none => match leavesOf (Γ.ty t) (ev T x) with
        | some (qs, ls) => K (qs ++ ps) (.ptr d 0 none) ((d, .mem true 0 ls) :: M)
        | none => False
      | some _ => False
    | none => False
  | .store t ad x => match o.dst with
    | none => match ev T ad with
      | .ptr a f i => match getM M a with
        | some (.mem true sp ls) => match (Γ.ty t).k with
          | .bad => False
          | _ => match storeL ls f i (Γ.ty t) (ev T x) with
            | some (qs, l) => K (qs ++ ps) .und ((a, .mem true sp l) :: M)
            | none => False
        | _ => False
      | .ep a f q s => match getM M a with
        | some (.mem true sp ls) => match (Γ.ty t).k with
          | .bad => False
          | _ => match storeI ls f q s (Γ.ty t) (ev T x) with
            | some (qs, l) => K (qs ++ ps) .und ((a, .mem true sp l) :: M)
            | none => False
        | _ => False
      | _ => False
    | some _ => False
  | .makeSlice t l c => match o.dst with
    | some d => match getM M d with
      | none => match makeV Γ.ty T d t l c with
        | some (qs, e, v) => K (qs ++ ps) v ((d, e) :: M)
        | none => False
      | some _ => False
    | none => False
  | .buildSlice t len parts => bif noParts len parts.toList then match o.dst with
      | some d => match getM M d with
        | none => match bsV Γ.ty T d t len parts.toList with
          | some (qs, e, v) => K (qs ++ ps) v ((d, e) :: M)
          | none => False
        | some _ => False
      | none => False
    else False
  | .convert s t x => match (Γ.ty t).k with
    | .slice e => match (Γ.ty s).k with
      | .slice _ => match markArg M s t (Γ.ty e).k (ev T x) with
        | some v => K ps v M
        | none => False
      | _ => match o.dst with
        | some d => match getM M d with
          | none => match strOf Γ.ty s e (ev T x) with
            | some l => ∀ c', l.length ≤ c' → K ps (.sl d 0 0 l.length c') ((d, .mem true (c' - l.length) [(l.length, .a8 l)]) :: M)
            | none => False
          | some _ => False
        | none => False
    | _ => match pureOp Γ.ty T M o.op with
      | some (qs, v) => K (qs ++ ps) v M
      | none => False
  | .call c => match c.callee with
    | .value f => match ev T f with
      | .fn g cap => bif memB g Γ.calls then withP ps (Call Γ.P g (evL T c.args.toList ++ capL cap) M (fun v M' => K [] v M')) else False
      | _ => False
    | .builtin b => match isCopy b with
      | true => match copyE Γ.ty M T c with
        | some (qs, m, b, E) => K (qs ++ ps) (.i .i64 (m : Int)) ((b, E) :: M)
        | none => False
      | false => match isAppend b with
        | true => match o.dst with
          | some d => match getM M d with
            | none => match appV Γ.ty T M c with
              | some (qs, n, es, leaf, k, M') => match getM M' d with
                | none => ∀ c', n ≤ c' → K (qs ++ ps) (.sl d 0 0 n c') ((d, .mem true (mulE (c' - n) es) [(mulE n es, leaf)]) :: killM k M')
                | some _ => False
              | none => False
            | some _ => False
          | none => False
        | false => match pureOp Γ.ty T M o.op with
          | some (qs, v) => K (qs ++ ps) v M
          | none => False
    | _ => False
  | op => match pureOp Γ.ty T M op with
    | some (qs, v) => K (qs ++ ps) v M
    | none => False

def guardSlot (all : List Oper) (j : Nat) : Option Nat :=
  match all[j]? with
  | some o => o.dst
  | none => none

/-- A list of operations, one behind the other. -/
def runOps (Γ : Cfg) (all : List Oper) (l : List Oper) (T : Tm) (M : Mm) (ps : List Prop) (K : Tm → Mm → Prop) : Prop :=
  match l with
  | [] => withP ps (K T M)
  | o :: r => match o.guard with
    | none => effOp Γ o T M ps fun qs v M' => runOps Γ all r (putT o.dst v T) M' qs K
    | some (j, want) => match guardSlot all j with
      | none => False
      | some d => match getT T d with
        | .tt => match want with
          | true => effOp Γ o T M ps fun qs v M' => runOps Γ all r (putT o.dst v T) M' qs K
          | false => runOps Γ all r (putT o.dst (.tup []) T) M ps K
        | .ff => match want with
          | false => effOp Γ o T M ps fun qs v M' => runOps Γ all r (putT o.dst v T) M' qs K
          | true => runOps Γ all r (putT o.dst (.tup []) T) M ps K
        | .bool p => match want with
          | true => withP ps (Branch p (effOp Γ o ((d, .tt) :: T) M [] fun qs v M' => runOps Γ all r (putT o.dst v ((d, .tt) :: T)) M' qs K) (runOps Γ all r (putT o.dst (.tup []) ((d, .ff) :: T)) M [] K))
          | false => withP ps (Branch p (runOps Γ all r (putT o.dst (.tup []) ((d, .tt) :: T)) M [] K) (effOp Γ o ((d, .ff) :: T) M [] fun qs v M' => runOps Γ all r (putT o.dst v ((d, .ff) :: T)) M' qs K))
        | .tup [] => runOps Γ all r (putT o.dst (.tup []) T) M ps K
        | _ => False

theorem bif_someP {b : Bool} {A B : Prop} (h : bif b then A else B) : (b = true ∧ A) ∨ (b = false ∧ B) := by
  cases b with
  | true => exact Or.inl ⟨rfl, h⟩
  | false => exact Or.inr ⟨rfl, h⟩

/-- A block gets the run-time's mark: nothing that the names tell is changed. -/
theorem mark_sound {P : Program} {ρ : Env} {M : Mm} {w : World} (h : ConcM ρ M w) {a sp : Nat} {ls : List (Nat × SV)} (ha : getM M a = some (.mem true sp ls)) (hpos : 0 < sizeL ls + sp) (q : Nat) {t e n c : Nat}
    (ut : P.underlying t = some (.slice e)) (ue : P.underlying e = some (.int .u8)) :
    ∃ w', (convert t t (.slice (some ⟨(ρ.pos a).1, q, none⟩) n c)).run P w = .ok (.slice (some ⟨(ρ.pos a).1, q, none⟩) n c) w' ∧ ConcM ρ M w' ∧ Step ρ M ρ M w w' := by
  obtain ⟨cs, c1, c2, c3, c4⟩ := h.sat a _ ha
  obtain ⟨⟨v0, hv0⟩, hh⟩ := c4 rfl 0 hpos
  have hlt : (ρ.pos a).1 < w.heap.size := c2.1 (by simp only [if_true]; omega)
  obtain ⟨C, E, lo, hi, hb⟩ : ∃ C E lo hi, w.heap[(ρ.pos a).1]? = some (.cells C E (lo, hi)) := by
    unfold World.cell? at hv0
    simp only at hv0
    cases hb : w.heap[(ρ.pos a).1]? with
    | none => rw [hb] at hv0; cases hv0
    | some x =>
      rw [hb] at hv0
      cases x
      case cells C E fz => exact ⟨C, E, fz.1, fz.2, rfl⟩
      all_goals cases hv0
  have hfz : lo = hi ∨ C.size ≤ lo := by
    unfold hard at hh
    simp only [hb, Bool.not_eq_false', Bool.or_eq_true, beq_iff_eq] at hh
    exact hh.imp id Nat.le_of_ble_eq_true
  have hsh : w.shape? (ρ.pos a).1 = some (E, C.size) := by unfold World.shape?; rw [hb]
  refine ⟨w.freeze ⟨(ρ.pos a).1, C.size, none⟩ 1, ?_, ?_⟩
  · simp [convert, run_und ut, run_und ue, markStringish, hsh]
  generalize hw : w.freeze ⟨(ρ.pos a).1, C.size, none⟩ 1 = w'
  have hheap : ∀ k : Nat, w'.heap[k]? = if k = (ρ.pos a).1 then some (.cells C E (if lo == hi then (C.size, C.size + 1) else (min lo C.size, max hi (C.size + 1)))) else w.heap[k]? := by
    intro k
    rw [← hw]
    unfold World.freeze
    rw [if_neg (by decide)]
    simp only [Array.getElem?_modify]
    by_cases hk : k = (ρ.pos a).1
    · subst hk
      rw [if_pos rfl, if_pos rfl, hb]
      rfl
    · rw [if_neg (fun e => hk e.symm), if_neg hk]
  have hsz : w'.heap.size = w.heap.size := by
    rw [← hw]; unfold World.freeze; rw [if_neg (by decide)]; simp
  have hos : w'.os = w.os ∧ w'.output = w.output := by
    rw [← hw]; unfold World.freeze; rw [if_neg (by decide)]; exact ⟨rfl, rfl⟩
  have hcell : ∀ k o, w'.cell? ⟨k, o, none⟩ = w.cell? ⟨k, o, none⟩ := by
    intro k o
    unfold World.cell?
    simp only [hheap]
    by_cases hk : k = (ρ.pos a).1
    · subst hk; rw [if_pos rfl, hb]
    · rw [if_neg hk]
  have hhard : ∀ k o, hard w' ⟨k, o, none⟩ = hard w ⟨k, o, none⟩ := by
    intro k o
    unfold hard
    simp only [hheap]
    by_cases hk : k = (ρ.pos a).1
    · subst hk
      rw [if_pos rfl, hb]
      have e1 : (!(lo == hi || Nat.ble C.size lo)) = false := by
        rcases hfz with h | h
        · simp [h]
        · simp [Nat.ble_eq_true_of_le h]
      simp only [e1]
      by_cases hl : lo = hi
      · simp [hl]
      · have : (lo == hi) = false := by simpa using hl
        have hle : C.size ≤ lo := hfz.resolve_left hl
        simp only [this, Bool.false_eq_true, if_false]
        rw [Nat.min_eq_right hle]
        simp
    · rw [if_neg hk]
  refine ⟨⟨h.dom, h.mod, fun b e he => SatE.of_same (Env.le_refl _) (Nat.le_of_eq hsz.symm) (fun k o _ => ⟨hcell k o, hhard k o⟩) (h.sat b e he), h.sep, fun b o ls hi => (h.imm b o ls hi).keep (fun _ _ _ h => h) (Nat.le_of_eq hsz.symm) (fun j _ => hcell _ _), h.isep⟩,
    ⟨Nat.le_of_eq hsz.symm, hos.1, hos.2, fun b hb' hn => ?_, fun b o _ _ => ⟨hcell b o, hhard b o⟩, fun _ _ _ h => h, fun _ _ _ h => Or.inl h⟩⟩
  rw [hheap, if_neg]
  intro hk
  exact hn (ρ.pos a).2 ⟨a, _, ha, rfl, hk, Nat.le_refl _, by simp only [if_true]; omega⟩

/-- The bytes of a string, as a slice. -/
theorem strB_sound {Γ : Ctx} {N : Nat} {ρ : Env} {T : Tm} {M : Mm} {a : Act} {w : World} (hc : Conc N ρ T M a w) {d s t e : Nat} (hd : getM M d = none) (hk : (Γ.ty t).k = .slice e) {x : Operand} {l : List UInt8} (h : strOf Γ.ty s e (ev T x) = some l) :
    ∃ w' ρ' c', l.length ≤ c' ∧ (convert s t (a.eval x)).run Γ.P w = .ok (.slice (some ⟨w.heap.size, 0, none⟩) l.length c') w' ∧ ρ.le ρ' ∧ ConcM ρ' ((d, .mem true (c' - l.length) [(l.length, .a8 l)]) :: M) w' ∧
      Step ρ M ρ' ((d, .mem true (c' - l.length) [(l.length, .a8 l)]) :: M) w w' ∧ RelT ρ' (.sl d 0 0 l.length c') (.slice (some ⟨w.heap.size, 0, none⟩) l.length c') := by
  unfold strOf at h
  split at h
  · rename_i hs
    split at h
    · rename_i he
      split at h
      · rename_i l' hv
        simp only [Option.some.injEq] at h; subst h
        have hr := ev_rel hc x
        rw [hv] at hr
        have hx : a.eval x = .string ⟨l'.toArray⟩ := hr
        have us := und_string (Γ.ok (t := s) (by rw [hs]; simp)) hs
        have ut := und_slice (Γ.ok (t := t) (by rw [hk]; simp)) hk
        have ue := und_int (Γ.ok (t := e) (by rw [he]; simp)) he
        have hrun := Lib.run_convert_string_bytes (P := Γ.P) w s t e ⟨l'.toArray⟩ us ut ue
        have hsz : (⟨l'.toArray⟩ : ByteArray).size = l'.length := by simp [ByteArray.size]
        rw [hsz] at hrun
        have hge := grownCap_ge w l'.length 0 e
        have hbs : (Lib.bytesCells w e ⟨l'.toArray⟩).size = grownCap w l'.length 0 e := by
          simp only [Lib.bytesCells, hsz]
          simp
          omega
        have hg : Grows w (Lib.bytesWorld w e ⟨l'.toArray⟩) := ⟨by rw [Lib.bytesWorld_size]; omega, rfl, rfl, fun b hb => Lib.bytesWorld_at_old w e _ b hb⟩
        have hnew := Lib.bytesWorld_at_new w e ⟨l'.toArray⟩
        obtain ⟨k1, k2, k3⟩ := hc.toConcM.fresh hg (by rw [Lib.bytesWorld_size]; omega) (d := d) hd (cs := l'.map w8) (ls := [(l'.length, .a8 l')]) (sp := grownCap w l'.length 0 e - l'.length)
          ⟨_, [], (List.append_nil _).symm, by simp, rfl, rfl⟩ (fun j v hj => by
            have hlt : j < l'.length := by simpa using (List.getElem?_eq_some_iff.1 hj).1
            have := Lib.bytesWorld_cell w e ⟨l'.toArray⟩ j (by rw [hsz]; exact hlt)
            rw [this]
            rw [List.getElem?_map, List.getElem?_eq_getElem hlt] at hj
            simp only [Option.map_some, Option.some.injEq] at hj
            rw [← hj]
            simp [w8, List.getD, hlt]) (fun j hj => by
            have hlt : j < grownCap w l'.length 0 e := by simp only [List.length_map] at hj; omega
            refine ⟨⟨(Lib.bytesCells w e ⟨l'.toArray⟩)[j]'(by omega), ?_⟩, ?_⟩
            · simp only [World.cell?, hnew]
              simp [hbs, hlt]
            · simp only [hard, hnew]
              simp [hbs])
        refine ⟨_, _, _, hge, by rw [hx]; exact hrun, k1, k2, k3, RelT_of_Rel ⟨Or.inl rfl, hge, _, rfl, fun _ => ?_⟩⟩
        simp [Env.addr, Env.add]
      · cases h
    · cases h
  · cases h

theorem run_newVar {P : Program} {w : World} (t : TypeId) (x : Value) : (newVar t x).run P w = .ok ⟨w.heap.size, 0, none⟩ (w.alloc (.cells x.cells t)) := rfl

theorem evL_rel {N : Nat} {ρ : Env} {T : Tm} {M : Mm} {a : Act} {w : World} (hc : Conc N ρ T M a w) : ∀ l : List Operand, RelTL ρ (evL T l) (l.map a.eval)
  | [] => rfl
  | x :: r => ⟨_, _, rfl, ev_rel hc x, evL_rel hc r⟩

theorem RelTL_append {ρ : Env} : ∀ {l1 l2 : List SV} {x1 x2 : List Value}, RelTL ρ l1 x1 → RelTL ρ l2 x2 → RelTL ρ (l1 ++ l2) (x1 ++ x2)
  | [], _, _, _, h1, h2 => by simp only [RelTL] at h1; subst h1; simpa using h2
  | _ :: _, _, _, _, ⟨x, ys, e, h, hr⟩, h2 => ⟨x, ys ++ _, by rw [e]; rfl, h, RelTL_append hr h2⟩

theorem capL_rel {ρ : Env} : ∀ {cap : List (Nat × Nat)}, (∀ p ∈ cap, ρ.dom p.1) → RelTL ρ (capL cap) (cap.map fun p => Value.pointer (some (ρ.addr p.1 p.2 0)))
  | [], _ => rfl
  | (a, f) :: r, h => ⟨_, _, rfl, RelT_of_Rel ⟨h (a, f) (by simp), rfl⟩, capL_rel fun p hp => h p (by simp [hp])⟩

/-- The world behind an operation, and what is known of it. -/
def After (N : Nat) (ρ : Env) (M : Mm) (w : World) (K : Tm → Mm → Prop) : Act → World → Prop :=
  fun a' w' => ∃ ρ' T' M', K T' M' ∧ ρ.le ρ' ∧ Conc N ρ' T' M' a' w' ∧ Step ρ M ρ' M' w w'

theorem memB_calls {Γ : Cfg} {g : Nat} (h : memB g Γ.calls = true) : ∃ fn, Γ.P.funcs[g]? = some fn ∧ (fn.name == "runtime.NumGoroutine") = false ∧ fn.body.isNone = false := by
  have := List.all_eq_true.1 Γ.callsOK g (memB_iff.1 h)
  unfold callOK at this
  split at this
  · rename_i fn hfn
    simp only [Bool.and_eq_true, Bool.not_eq_true'] at this
    refine ⟨fn, hfn, this.1, ?_⟩
    cases hb : fn.body with
    | none => rw [hb] at this; simp at this
    | some c => rfl
  · cases this

theorem effOp_sound {Γ : Cfg} {N : Nat} {ρ : Env} {T : Tm} {M : Mm} {a : Act} {w : World} (hc : Conc N ρ T M a w) {o : Oper} (hd : ∀ d, o.dst = some d → d < N)
    {ps : List Prop} {K : List Prop → SV → Mm → Prop} (hK : ∀ qs v M', K qs v M' → All qs) (h : effOp Γ o T M ps K) {Q : Exit → Act → World → Prop} :
    o.wp Γ.P a w (After N ρ M w fun T' M' => ∃ qs v, K qs v M' ∧ T' = putT o.dst v T) Q := by
  -- a value, the memory as it was
  have pure : ∀ {op : Op} {qs v}, o.op = op → pureOp Γ.ty T M op = some (qs, v) → K (qs ++ ps) v M → o.wp Γ.P a w (After N ρ M w fun T' M' => ∃ qs v, K qs v M' ∧ T' = putT o.dst v T) Q := by
    intro op qs v ho hp hk
    subst ho
    obtain ⟨x, hx, hr⟩ := pureOp_sound hc hp (hK _ _ _ hk).left
    unfold Oper.wp
    rw [hr]
    show After N ρ M w _ (a.put o.dst x) w
    refine ⟨ρ, putT o.dst v T, M, ⟨_, v, hk, rfl⟩, Env.le_refl _, ?_, Step.refl _ _ _⟩
    cases hdst : o.dst with
    | none => exact hc.put_none x
    | some d => exact hc.put (hd d hdst) hx
  have fresh : ∀ {d : Nat} {ls : List (Nat × SV)} {x : Value} {t : TypeId} {qs : List Prop}, o.dst = some d → getM M d = none → CellsL ρ ls x.cells.toList → K qs (.ptr d 0 none) ((d, .mem true 0 ls) :: M) →
      (execOp a.eval o).run Γ.P w = .ok (.value (.pointer (some ⟨w.heap.size, 0, none⟩))) (w.alloc (.cells x.cells t)) → o.wp Γ.P a w (After N ρ M w fun T' M' => ∃ qs v, K qs v M' ∧ T' = putT o.dst v T) Q := by
    intro d ls x t qs hdst hm hcs hk hr
    obtain ⟨h1, h2, h3⟩ := hc.toConcM.alloc (t := t) (sp := 0) hm hcs (fun j v hj => by simpa using hj) (by simp)
    unfold Oper.wp
    rw [hr]
    show After N ρ M w _ (a.put o.dst _) _
    refine ⟨_, putT o.dst (.ptr d 0 none) T, _, ⟨qs, _, hk, rfl⟩, h1, ?_, h3⟩
    rw [hdst]
    refine (hc.of_mem h1 h2).put (hd d hdst) (RelT_of_Rel ⟨Or.inl rfl, ?_⟩)
    simp [Env.addr, Env.add]
  have made : ∀ {d : Nat} {x : Value} {w' : World} {ρ' : Env} {qs : List Prop} {v : SV} {M' : Mm}, o.dst = some d → (execOp a.eval o).run Γ.P w = .ok (.value x) w' → ρ.le ρ' → ConcM ρ' M' w' → Step ρ M ρ' M' w w' → RelT ρ' v x → K qs v M' →
      o.wp Γ.P a w (After N ρ M w fun T' M' => ∃ qs v, K qs v M' ∧ T' = putT o.dst v T) Q := by
    intro d x w' ρ' qs v M' hdst hr hle hM' hst hx hk
    unfold Oper.wp
    rw [hr]
    show After N ρ M w _ (a.put o.dst x) w'
    refine ⟨ρ', putT o.dst v T, M', ⟨qs, v, hk, rfl⟩, hle, ?_, hst⟩
    rw [hdst]
    exact (hc.of_mem hle hM').put (hd d hdst) hx
  have stored : ∀ {t : TypeId} {ad x : Operand} {b q sp : Nat} {ls l : List (Nat × SV)} {qs : List Prop}, o.op = .store t ad x → o.dst = none → (Γ.ty t).k ≠ .bad → getM M b = some (.mem true sp ls) →
      a.eval ad = .pointer (some ⟨(ρ.pos b).1, (ρ.pos b).2 + q, none⟩) → sizeL l = sizeL ls →
      (∀ cs, CellsL ρ ls cs → q + (Γ.ty t).size ≤ cs.length ∧ (a.eval x).cells.size = (Γ.ty t).size ∧ (∀ z ∈ (a.eval x).cells.toList, one z) ∧ CellsL ρ l (cs.take q ++ (a.eval x).cells.toList ++ cs.drop (q + (Γ.ty t).size))) →
      K qs .und ((b, .mem true sp l) :: M) → o.wp Γ.P a w (After N ρ M w fun T' M' => ∃ qs v, K qs v M' ∧ T' = putT o.dst v T) Q := by
    intro t ad x b q sp ls l qs hop hdst hk hm hv q4 hst hkk
    obtain ⟨cs, c1, c2, c3, c4⟩ := hc.sat b _ hm
    obtain ⟨q1, q2, q3, q5⟩ := hst cs c1
    have hlen := c1.length
    have hxl : (a.eval x).cells.toList.length = (Γ.ty t).size := by simpa using q2
    have c4 := c4 rfl
    obtain ⟨w', hr, hw⟩ := run_storeCells (P := Γ.P) (b := (ρ.pos b).1) (o := (ρ.pos b).2 + q) (a.eval x).cells.toList 0 w q3 (fun j hj => by
      have := c4 (q + j) (by omega)
      rw [show (ρ.pos b).2 + q + (0 + j) = (ρ.pos b).2 + (q + j) by omega]
      exact this)
    rw [Nat.add_zero] at hw
    have hrun : (execOp a.eval o).run Γ.P w = .ok .skip w' := by
      simp only [execOp, hop, Instr.storeAt, Sem.run_bind, hv, Instr.sureAddr, Sem.run_pure, Result.andThen_ok, storeVar, run_sizeOf (Γ.ok hk), q2, ne_eq, not_true, if_false]
      rw [hr]; rfl
    obtain ⟨m1, m2⟩ := hc.toConcM.write (sp' := sp) hm hw (by omega) q5 (by omega) (fun cs' d1 d2 j v hj => by
      have e0 : cs' = cs ∨ True := Or.inr trivial
      have hl' := d1.length
      have hin : ∀ j, ¬ (q ≤ j ∧ j < q + (Γ.ty t).size) → w'.cell? ⟨(ρ.pos b).1, (ρ.pos b).2 + j, none⟩ = w.cell? ⟨(ρ.pos b).1, (ρ.pos b).2 + j, none⟩ := by
        intro j hn
        refine hw.old _ _ (fun _ => ?_)
        omega
      rcases Nat.lt_or_ge j q with hlt | hge
      · rw [List.append_assoc, List.getElem?_append_left (by rw [List.length_take]; omega), List.getElem?_take, if_pos hlt] at hj
        rw [hin j (by omega)]; exact c3 j v hj
      · rcases Nat.lt_or_ge j (q + (Γ.ty t).size) with hlt2 | hge2
        · rw [List.append_assoc, List.getElem?_append_right (by rw [List.length_take]; omega), List.getElem?_append_left (by rw [List.length_take]; omega), List.length_take, Nat.min_eq_left (by omega)] at hj
          have := hw.new (j - q) v hj
          rw [show (ρ.pos b).2 + q + (j - q) = (ρ.pos b).2 + j by omega] at this
          exact this
        · rw [List.getElem?_append_right (by simp only [List.length_append, List.length_take]; omega), List.getElem?_drop] at hj
          simp only [List.length_append, List.length_take, hxl] at hj
          rw [show q + (Γ.ty t).size + (j - (min q cs.length + (Γ.ty t).size)) = j by omega] at hj
          rw [hin j (by omega)]; exact c3 j v hj)
    unfold Oper.wp
    rw [hrun]
    show After N ρ M w _ (a.put o.dst undef) w'
    rw [hdst]
    exact ⟨ρ, T, _, ⟨_, .und, hkk, rfl⟩, Env.le_refl _, (hc.of_mem (Env.le_refl _) m1).put_none _, m2⟩
  unfold effOp at h
  split at h
  · -- alloc
    rename_i t hop
    split at h
    · rename_i d hdst
      split at h
      · rename_i hm
        split at h
        · exact h.elim
        · rename_i hk
          split at h
          · exact h.elim
          · rename_i hz
            obtain ⟨z, hz1, hz2, hz3, _⟩ := run_zero (w := w) (Γ.ok hk) hz
            refine fresh hdst hm (x := z) (t := t) (by rw [hz2]; exact zeroL_cells ρ hz3) h ?_
            simp only [execOp, hop, Instr.alloc, Sem.run_bind, hz1, Result.andThen_ok, run_newVar, Sem.run_pure]
      · exact h.elim
    · exact h.elim
  · -- box
    rename_i t x hop
    split at h
    · rename_i d hdst
      split at h
      · rename_i hm
        split at h
        · rename_i ps ls hl
          refine fresh hdst hm (x := a.eval x) (t := t) (leavesOf_sound (ev_rel hc x) hl (hK _ _ _ h).left) h ?_
          simp only [execOp, hop, Instr.box, Sem.run_bind, Result.andThen_ok, run_newVar, Sem.run_pure]
        · exact h.elim
      · exact h.elim
    · exact h.elim
  · -- store
    rename_i t ad x hop
    split at h
    · rename_i hdst
      split at h
      · rename_i b f i he
        split at h
        · rename_i sp ls hm
          split at h
          · exact h.elim
          · rename_i hk
            split at h
            · rename_i ps l hs
              have hr := ev_rel hc ad
              rw [he] at hr
              obtain ⟨_, hv⟩ := hr
              obtain ⟨cs, c1, _⟩ := hc.sat b _ hm
              obtain ⟨_, _, _, q4, _⟩ := storeL_sound c1 (ev_rel hc x) hs (hK _ _ _ h).left
              refine stored (q := f + i.getD 0) hop hdst hk hm (by rw [hv, addr_eq]) q4 (fun cs hcs => ?_) h
              obtain ⟨q1, q2, q3, _, q5⟩ := storeL_sound hcs (ev_rel hc x) hs (hK _ _ _ h).left
              exact ⟨q1, q2, q3, q5⟩
            · exact h.elim
        · exact h.elim
      · rename_i b f q s he
        split at h
        · rename_i sp ls hm
          split at h
          · exact h.elim
          · rename_i hk
            split at h
            · rename_i ps l hs
              have hr := ev_rel hc ad
              rw [he] at hr
              obtain ⟨_, hv⟩ := hr
              obtain ⟨cs, c1, _⟩ := hc.sat b _ hm
              obtain ⟨_, _, _, q4, _⟩ := storeI_sound c1 (ev_rel hc x) hs (hK _ _ _ h).left
              refine stored (q := f + q * s) hop hdst hk hm (by rw [hv, addr_eq]) q4 (fun cs hcs => ?_) h
              obtain ⟨q1, q2, q3, _, q5⟩ := storeI_sound hcs (ev_rel hc x) hs (hK _ _ _ h).left
              exact ⟨q1, q2, q3, q5⟩
            · exact h.elim
        · exact h.elim
      · exact h.elim
    · exact h.elim
  · -- make
    rename_i t l c hop
    split at h
    · rename_i d hdst
      split at h
      · rename_i hm
        split at h
        · rename_i qs e v hv
          obtain ⟨x, w', ρ', h1, h2, h3, h4, h5⟩ := makeV_sound (Γ := Γ.toCtx) hc hm hv (hK _ _ _ h).left
          exact made hdst (by simp only [execOp, hop, Sem.run_bind, h1, Result.andThen_ok, Sem.run_pure]) h2 h3 h4 h5 h
        · exact h.elim
      · exact h.elim
    · exact h.elim
  · -- a slice that is written out
    rename_i t len parts hop
    rcases bif_someP h with ⟨hn, h⟩ | ⟨_, h⟩
    · split at h
      · rename_i d hdst
        split at h
        · rename_i hm
          split at h
          · rename_i qs e v hv
            obtain ⟨x, w', ρ', h1, h2, h3, h4, h5⟩ := bsV_sound (Γ := Γ.toCtx) hc hm hv (hK _ _ _ h).left (fun h0 => by
              subst h0
              unfold noParts at hn
              split at hn
              · rename_i hp0; split at hn
                · assumption
                · cases hn
              · rename_i hne; exact absurd rfl hne)
            refine made hdst ?_ h2 h3 h4 h5 h
            have : parts.map (fun (p : Nat × Operand) => (p.1, a.eval p.2)) = (parts.toList.map fun (p : Nat × Operand) => (p.1, a.eval p.2)).toArray := by
              apply Array.ext'; simp
            simp only [execOp, hop, Sem.run_bind, this, h1, Result.andThen_ok, Sem.run_pure]
          · exact h.elim
        · exact h.elim
      · exact h.elim
    · exact h.elim
  · -- convert
    rename_i s t x hop
    split at h
    · rename_i e hk
      split at h
      · rename_i e0 hk0
        split at h
        · rename_i v' hv'
          obtain ⟨b, f, i, n, c, sp, ls, hx, rfl, hm, hst, hke, hn0, hpos⟩ := markArg_some hv'
          subst hst
          have hr := ev_rel hc x
          rw [hx] at hr
          obtain ⟨hdom, hnc, y, hv, hy⟩ := hr
          have hy := hy (by omega)
          subst hy
          have us := und_slice (Γ.ok (t := s) (by rw [hk]; simp)) hk
          have ue := und_int (Γ.ok (t := e) (by rw [hke]; simp)) hke
          obtain ⟨w', h1, h2, h3⟩ := mark_sound hc.toConcM hm hpos ((ρ.pos b).2 + (f + i)) (n := n) (c := c) us ue
          have hrun : (execOp a.eval o).run Γ.P w = .ok (.value (.slice (some (ρ.addr b f i)) n c)) w' := by
            simp only [execOp, hop, Sem.run_bind, hv]
            have : (convert s s (.slice (some (ρ.addr b f i)) n c)).run Γ.P w = .ok (.slice (some (ρ.addr b f i)) n c) w' := h1
            rw [this]
            simp only [Result.andThen_ok, Sem.run_pure]
          unfold Oper.wp
          rw [hrun]
          show After N ρ M w _ (a.put o.dst _) w'
          refine ⟨ρ, putT o.dst (.sl b f i n c) T, M, ⟨_, _, h, rfl⟩, Env.le_refl _, ?_, h3⟩
          have hx' : RelT ρ (.sl b f i n c) (.slice (some (ρ.addr b f i)) n c) := RelT_of_Rel ⟨hdom, hnc, _, rfl, fun _ => rfl⟩
          cases hdst : o.dst with
          | none => exact (hc.of_mem (Env.le_refl _) h2).put_none _
          | some d => exact (hc.of_mem (Env.le_refl _) h2).put (hd d hdst) hx'
        · exact h.elim
      · split at h
        · rename_i d hdst
          split at h
          · rename_i hm
            split at h
            · rename_i l hl
              obtain ⟨w', ρ', c', hn, h1, h2, h3, h4, h5⟩ := strB_sound (Γ := Γ.toCtx) hc hm hk hl
              exact made hdst (by simp only [execOp, hop, Sem.run_bind, h1, Result.andThen_ok, Sem.run_pure]) h2 h3 h4 h5 (h c' hn)
            · exact h.elim
          · exact h.elim
        · exact h.elim
    · split at h
      · rename_i qs v hv
        exact pure rfl hv h
      · exact h.elim
  · -- call
    rename_i c hop
    split at h
    · rename_i f hcal
      split at h
      · rename_i g cap he
        have hr := ev_rel hc f
        rw [he] at hr
        obtain ⟨hcap, hv⟩ := hr
        cases hmem : memB g Γ.calls with
        | false => rw [hmem, cond_false] at h; exact h.elim
        | true =>
          rw [hmem, cond_true] at h
          obtain ⟨fn, hfn, hname, hbody⟩ := memB_calls hmem
          have hargs := RelTL_append (evL_rel hc c.args.toList) (capL_rel hcap)
          have hcall := callX_sound hc.toConcM hargs (withP.rest h).out
          have hrun : (execOp a.eval o).run Γ.P w = .ok (.enter g ((c.args.toList.map a.eval) ++ (cap.map fun p => Value.pointer (some (ρ.addr p.1 p.2 0)))).toArray) w := by
            have e1 : c.args.map a.eval = (c.args.toList.map a.eval).toArray := by apply Array.ext'; simp
            simp only [execOp, hop, resolve, hcal, hv, Deferred.ofValue, Sem.run_bind, Sem.run_pure, Result.andThen_ok, invoke, callFunc, run_program, hfn, hname, hbody, Bool.false_eq_true, if_false]
            congr 2
            rw [e1]; simp
          unfold Oper.wp
          rw [hrun]
          show Calls Γ.P g _ w _
          refine hcall.mono ?_
          rintro e w' ⟨v, x, ρ', M', rfl, hx, hk, hle, hM', hst⟩
          show After N ρ M w _ (a.put o.dst x) w'
          refine ⟨ρ', putT o.dst v T, M', ⟨[], v, hk, rfl⟩, hle, ?_, hst⟩
          cases hdst : o.dst with
          | none => exact (hc.of_mem hle hM').put_none x
          | some d => exact (hc.of_mem hle hM').put (hd d hdst) hx
      · exact h.elim
    · rename_i b hcal
      split at h
      · rename_i hb
        split at h
        · rename_i qs m b' E he
          have hbc : b = .copy := by cases b <;> first | rfl | cases hb
          subst hbc
          obtain ⟨w', hrun, hM', hst⟩ := copyE_sound (Γ := Γ.toCtx) hc he (hK _ _ _ h).left o.type
          have hex : (execOp a.eval o).run Γ.P w = .ok (.value (.int .i64 (m : Int))) w' := by
            simp only [execOp, hop, resolve, hcal, Sem.run_bind, Sem.run_pure, Result.andThen_ok, invoke]
            exact hrun
          unfold Oper.wp
          rw [hex]
          show After N ρ M w _ (a.put o.dst _) w'
          refine ⟨ρ, putT o.dst (.i .i64 (m : Int)) T, _, ⟨_, _, h, rfl⟩, Env.le_refl _, ?_, hst⟩
          have hc' := hc.of_mem (Env.le_refl _) hM'
          cases hdst : o.dst with
          | none => exact hc'.put_none _
          | some d => exact hc'.put (hd d hdst) (RelT_of_Rel rfl)
        · exact h.elim
      · split at h
        · rename_i hb
          split at h
          · rename_i d hdst
            split at h
            · rename_i hm
              split at h
              · rename_i qs n es leaf k M' hap
                split at h
                · rename_i hm'
                  have hba : b = .append := by cases b <;> first | rfl | cases hb
                  subst hba
                  obtain ⟨x, w', ρ', c', h1, hn, h2, h3, h4, h5⟩ := appV_sound (Γ := Γ.toCtx) hc hm hap (hK _ _ _ (h n (Nat.le_refl _))).left hm' o.type
                  exact made hdst (by
                    simp only [execOp, hop, resolve, hcal, Sem.run_bind, Sem.run_pure, Result.andThen_ok, invoke]
                    show (Builtin.append_ c.argTypes o.type (c.args.map a.eval) >>= fun v => Pure.pure (Next.value v) : Sem Next).run Γ.P w = _
                    simp only [Sem.run_bind, h1, Result.andThen_ok, Sem.run_pure]) h2 h3 h4 h5 (h c' hn)
                · exact h.elim
              · exact h.elim
            · exact h.elim
          · exact h.elim
        split at h
        · rename_i ps v hp
          exact pure rfl hp h
        · exact h.elim
    · exact h.elim
  · split at h
    · rename_i ps v hp
      exact pure rfl hp h
    · exact h.elim



theorem effOp_all {Γ : Cfg} {o : Oper} {T : Tm} {M : Mm} {ps : List Prop} {K : List Prop → SV → Mm → Prop} (hK : ∀ qs v M', K qs v M' → All qs) (h : effOp Γ o T M ps K) : All ps := by
  unfold effOp at h
  split at h
  · repeat' (first | exact h.elim | exact hK _ _ _ h | split at h)
  · repeat' (first | exact h.elim | exact (hK _ _ _ h).right | split at h)
  · repeat' (first | exact h.elim | exact (hK _ _ _ h).right | split at h)
  · repeat' (first | exact h.elim | exact (hK _ _ _ h).right | split at h)
  · rcases bif_someP h with ⟨_, h⟩ | ⟨_, h⟩
    · repeat' (first | exact h.elim | exact (hK _ _ _ h).right | split at h)
    · exact h.elim
  · split at h
    · split at h
      · split at h
        · exact hK _ _ _ h
        · exact h.elim
      · split at h
        · split at h
          · split at h
            · exact hK _ _ _ (h _ (Nat.le_refl _))
            · exact h.elim
          · exact h.elim
        · exact h.elim
    · split at h
      · exact (hK _ _ _ h).right
      · exact h.elim
  · split at h
    · split at h
      · rename_i g cap _
        cases hm : memB g Γ.calls with
        | false => rw [hm] at h; exact h.elim
        | true => rw [hm] at h; exact withP.all h
      · exact h.elim
    · split at h
      · split at h
        · exact (hK _ _ _ h).right
        · exact h.elim
      · split at h
        · split at h
          · split at h
            · split at h
              · split at h
                · exact (hK _ _ _ (h _ (Nat.le_refl _))).right
                · exact h.elim
              · exact h.elim
            · exact h.elim
          · exact h.elim
        · split at h
          · exact (hK _ _ _ h).right
          · exact h.elim
    · exact h.elim
  · split at h
    · exact (hK _ _ _ h).right
    · exact h.elim

theorem runOps_all {Γ : Cfg} {all : List Oper} {K : Tm → Mm → Prop} : ∀ {l : List Oper} {T : Tm} {M : Mm} {ps : List Prop}, runOps Γ all l T M ps K → All ps
  | [], _, _, _, h => withP.all h
  | o :: r, T, M, ps, h => by
    unfold runOps at h
    have e : ∀ {T' : Tm} {qs : List Prop}, (effOp Γ o T' M qs fun qs v M' => runOps Γ all r (putT o.dst v T') M' qs K) → All qs :=
      fun h => effOp_all (fun qs v M' hk => runOps_all hk) h
    split at h
    · exact e h
    · split at h
      · exact h.elim
      · split at h
        · split at h
          · exact e h
          · exact runOps_all h
        · split at h
          · exact e h
          · exact runOps_all h
        · split at h
          · exact withP.all h
          · exact withP.all h
        · exact runOps_all h
        · exact h.elim

theorem yielded_of {N : Nat} {ρ : Env} {T : Tm} {M : Mm} {a : Act} {w : World} (hc : Conc N ρ T M a w) {all : List Oper} {j d : Nat} (hd : guardSlot all j = some d) (hN : d < N) {b : Bool}
    (hv : a.tmps.getD d undef = .bool b) : yielded all.toArray a.tmps j = some b := by
  unfold guardSlot at hd
  unfold yielded
  split at hd
  · rename_i o ho
    have h1 : all.toArray[j]? = some o := by simpa using ho
    have h2 : a.tmps[d]? = some (.bool b) := by
      have : d < a.tmps.size := by rw [hc.sz]; exact hN
      rw [Array.getD_eq_getD_getElem?, Array.getElem?_eq_getElem this] at hv
      rw [Array.getElem?_eq_getElem this]
      simpa using hv
    simp only [h1, Option.bind_some, hd, h2]
  · cases hd

/-- An operation whose guard was passed over is passed over. -/
theorem wanted_und {o : Oper} {all : List Oper} {j d : Nat} {want : Bool} {tmps : Array Value} (hg : o.guard = some (j, want)) (hd : guardSlot all j = some d) (hv : tmps.getD d undef = .tuple #[]) : Region.wanted o (yielded all.toArray tmps) = false := by
  have : yielded all.toArray tmps j = none := by
    unfold guardSlot at hd
    unfold yielded
    split at hd
    · rename_i o' ho
      have h1 : all.toArray[j]? = some o' := by simpa using ho
      simp only [h1, Option.bind_some, hd]
      rw [Array.getD_eq_getD_getElem?] at hv
      cases hx : tmps[d]? with
      | none => rfl
      | some x => rw [hx, Option.getD_some] at hv; subst hv; rfl
    · cases hd
  simp [Region.wanted, hg, this]

/-- Another thing that is known of a slot. -/
theorem Conc.know {N : Nat} {ρ : Env} {T : Tm} {M : Mm} {a : Act} {w : World} (hc : Conc N ρ T M a w) {d : Nat} {v : SV} (h : RelT ρ v (a.tmps.getD d undef)) : Conc N ρ ((d, v) :: T) M a w where
  toConcM := hc.toConcM
  sz := hc.sz
  defers := hc.defers
  tm e := by
    by_cases he : e = d
    · subst he; rw [getT_cons_self]; exact h
    · rw [getT_cons_ne he]; exact hc.tm e

/-- Every slot that the operations write is there. -/
def dstOK (N : Nat) : List Oper → Bool
  | [] => true
  | o :: r => (match o.dst with
    | some d => Nat.blt d N
    | none => true) && dstOK N r

theorem dstOK_get {N : Nat} : ∀ {l : List Oper}, dstOK N l = true → ∀ {o : Oper}, o ∈ l → ∀ d, o.dst = some d → d < N
  | [], _, _, h, _, _ => by simp at h
  | o' :: r, hn, o, h, d, hd => by
    simp only [dstOK, Bool.and_eq_true] at hn
    rcases List.mem_cons.1 h with rfl | h
    · rw [hd] at hn; exact u_lt_of hn.1
    · exact dstOK_get hn.2 h d hd

theorem After.mono {N : Nat} {ρ : Env} {M : Mm} {w : World} {K K' : Tm → Mm → Prop} {a : Act} {w' : World} (hk : ∀ T M, K T M → K' T M) (h : After N ρ M w K a w') : After N ρ M w K' a w' := by
  obtain ⟨ρ', T', M', h1, h2⟩ := h
  exact ⟨ρ', T', M', hk _ _ h1, h2⟩

theorem After.trans {N : Nat} {ρ : Env} {M : Mm} {w : World} {ρ1 : Env} {M1 : Mm} {w1 : World} (hle : ρ.le ρ1) (hst : Step ρ M ρ1 M1 w w1) {K : Tm → Mm → Prop} {a : Act} {w' : World} (h : After N ρ1 M1 w1 K a w') : After N ρ M w K a w' := by
  obtain ⟨ρ', T', M', h1, h2, h3, h4⟩ := h
  exact ⟨ρ', T', M', h1, Env.le_trans hle h2, h3, hst.trans h4⟩

theorem runOps_sound {Γ : Cfg} {N : Nat} {all : List Oper} (hall : dstOK N all = true) {K : Tm → Mm → Prop} {Q : Exit → Act → World → Prop} : ∀ (l : List Oper), (∀ o ∈ l, o ∈ all) →
    ∀ {ρ : Env} {T : Tm} {M : Mm} {a : Act} {w : World} {ps : List Prop}, Conc N ρ T M a w → runOps Γ all l T M ps K → (∀ a' w', After N ρ M w K a' w' → Q .normal a' w') → wpList Γ.P all.toArray Q l a w
  | [], _, ρ, T, M, a, w, ps, hc, h, hQ => hQ a w ⟨ρ, T, M, withP.rest h, Env.le_refl _, hc, Step.refl _ _ _⟩
  | o :: r, hin, ρ, T, M, a, w, ps, hc, h, hQ => by
    have hmem := hin o (by simp)
    have hdst := dstOK_get hall hmem
    have ih := @runOps_sound Γ N all hall K Q r (fun o ho => hin o (by simp [ho]))
    -- the operation is run
    have go : ∀ {T' : Tm} {qs : List Prop}, Conc N ρ T' M a w → Region.wanted o (yielded all.toArray a.tmps) = true → (effOp Γ o T' M qs fun qs v M' => runOps Γ all r (putT o.dst v T') M' qs K) → wpList Γ.P all.toArray Q (o :: r) a w := by
      intro T' qs hc' hw he
      refine wpList_step fun K' hK' => ?_
      rw [if_pos hw]
      have := effOp_sound hc' hdst (fun qs v M' hk => runOps_all hk) he (Q := Q)
      refine Oper.wp_mono (fun a' w' haf => hK' a' w' ?_) this
      obtain ⟨ρ', T'', M', ⟨qs', v, hk, rfl⟩, hle, hc'', hst⟩ := haf
      exact ih hc'' hk fun a2 w2 h2 => hQ a2 w2 (h2.trans hle hst)
    -- the operation is passed over
    have skip : ∀ {T' : Tm} {qs : List Prop}, Conc N ρ T' M a w → Region.wanted o (yielded all.toArray a.tmps) = false → runOps Γ all r (putT o.dst (.tup []) T') M qs K → wpList Γ.P all.toArray Q (o :: r) a w := by
      intro T' qs hc' hw he
      refine wpList_step fun K' hK' => ?_
      rw [if_neg (by rw [hw]; simp)]
      refine hK' _ _ (ih (ρ := ρ) (T := putT o.dst (.tup []) T') ?_ he hQ)
      cases hd : o.dst with
      | none => exact hc'.put_none _
      | some d => exact hc'.put (hdst d hd) ⟨[], rfl, rfl⟩
    unfold runOps at h
    split at h
    · rename_i hg
      exact go hc (by simp [Region.wanted, hg]) h
    · rename_i j want hg
      split at h
      · exact h.elim
      · rename_i d hd
        have hdN : d < N := by
          unfold guardSlot at hd
          split at hd
          · rename_i o' ho'
            exact dstOK_get hall (List.mem_of_getElem? ho') d hd
          · cases hd
        have hw : ∀ {b : Bool}, a.tmps.getD d undef = .bool b → Region.wanted o (yielded all.toArray a.tmps) = (b == want) := by
          intro b hb
          have := yielded_of hc hd hdN hb
          simp only [Region.wanted, hg, this]
          cases b <;> cases want <;> rfl
        have hT := hc.tm d
        split at h
        · rename_i he; rw [he] at hT
          have hb : a.tmps.getD d undef = .bool true := hT
          split at h
          · exact go hc (by rw [hw hb]; rfl) h
          · exact skip hc (by rw [hw hb]; rfl) h
        · rename_i he; rw [he] at hT
          have hb : a.tmps.getD d undef = .bool false := hT
          split at h
          · exact go hc (by rw [hw hb]; rfl) h
          · exact skip hc (by rw [hw hb]; rfl) h
        · rename_i p he; rw [he] at hT
          obtain ⟨b, hb, hbp⟩ := hT
          split at h
          · have h := withP.rest h
            cases b with
            | true => exact go (hc.know (v := .tt) (RelT_of_Rel hb)) (by rw [hw hb]; rfl) (h.yes (hbp.1 rfl))
            | false => exact skip (hc.know (v := .ff) (RelT_of_Rel hb)) (by rw [hw hb]; rfl) (h.no fun hp => by have := hbp.2 hp; cases this)
          · have h := withP.rest h
            cases b with
            | true => exact skip (hc.know (v := .tt) (RelT_of_Rel hb)) (by rw [hw hb]; rfl) (h.yes (hbp.1 rfl))
            | false => exact go (hc.know (v := .ff) (RelT_of_Rel hb)) (by rw [hw hb]; rfl) (h.no fun hp => by have := hbp.2 hp; cases this)
        · rename_i he; rw [he] at hT
          exact skip hc (wanted_und hg hd (hT.elim fun xs hx => by have h1 := hx.1; have h2 := hx.2; simp only [RelL] at h1; subst h1; exact h2)) h
        · exact h.elim

end Go.Sx

namespace Go.Sx
open Go

inductive Gh where
  | own (nm : Nat) (l0 : List (Nat × SV))
  | leaf (a k nm : Nat)

def nilAt (nm : Nat) : Nat → List (Nat × SV) → Option (List (Nat × SV))
  | _, [] => none
  | 0, (s, v) :: r => match v with
    | .nsl => some ((s, .sl nm 0 0 0 0) :: r)
    | _ => none
  | k + 1, x :: r => match nilAt nm k r with
    | some q => some (x :: q)
    | none => none

/-- Owned memory without cells is told of; a nil slice in memory is one of it. -/
def ghostM (gs : List Gh) (M : Mm) : Option (List Prop × Mm) :=
  match gs with
  | [] => some ([], M)
  | .own nm l0 :: r => match getM M nm with
    | some _ => none
    | none => match ghostM r ((nm, .mem true 0 l0) :: M) with
      | some (ps, M') => some (nilL l0 :: ps, M')
      | none => none
  | .leaf a k nm :: r => match getM M nm with
    | none => none
    | some _ => match getM M a with
      | some (.mem true sp ls) => match nilAt nm k ls with
        | some ls' => ghostM r ((a, .mem true sp ls') :: M)
        | none => none
      | _ => none

/-- Slots that are nil. -/
def nilS (sl : List (Nat × Nat)) (T : Tm) (M : Mm) : Option Tm :=
  match sl with
  | [] => some T
  | (d, nm) :: r => match getM M nm with
    | none => none
    | some _ => match getT T d with
      | .nsl => match nilS r T M with
        | some T' => some ((d, .sl nm 0 0 0 0) :: T')
        | none => none
      | _ => none

theorem nilAt_cells {ρ : Env} {nm : Nat} (hd : ρ.dom nm) : ∀ {k : Nat} {ls ls' : List (Nat × SV)} {cs : List Value}, nilAt nm k ls = some ls' → CellsL ρ ls cs → CellsL ρ ls' cs
  | _, [], _, _, h, _ => by simp [nilAt] at h
  | 0, (s, v) :: r, ls', cs, h, hc => by
    simp only [nilAt] at h
    split at h
    · simp only [Option.some.injEq] at h; subst h
      obtain ⟨c1, c2, e, hl, ⟨x, hx, e1⟩, h2⟩ := hc
      exact ⟨c1, c2, e, hl, ⟨x, ⟨hd, Nat.le_refl _, none, hx, fun hc => absurd rfl hc⟩, e1⟩, h2⟩
    · cases h
  | k + 1, (s, v) :: r, ls', cs, h, hc => by
    simp only [nilAt] at h
    split at h
    · rename_i q hq
      simp only [Option.some.injEq] at h; subst h
      obtain ⟨c1, c2, e, hl, h1, h2⟩ := hc
      exact ⟨c1, c2, e, hl, h1, nilAt_cells hd hq h2⟩
    · cases h

theorem nilAt_size {nm : Nat} : ∀ {k : Nat} {ls ls' : List (Nat × SV)}, nilAt nm k ls = some ls' → sizeL ls' = sizeL ls
  | _, [], _, h => by simp [nilAt] at h
  | 0, (s, v) :: r, ls', h => by
    simp only [nilAt] at h
    split at h
    · simp only [Option.some.injEq] at h; subst h; rfl
    · cases h
  | k + 1, (s, v) :: r, ls', h => by
    simp only [nilAt] at h
    split at h
    · rename_i q hq
      simp only [Option.some.injEq] at h; subst h
      simp only [sizeL, nilAt_size hq]
    · cases h

/-- The same memory, told otherwise. -/
theorem ConcM.tell {ρ : Env} {M : Mm} {w : World} (h : ConcM ρ M w) {a sp : Nat} {ls ls' : List (Nat × SV)} (ha : getM M a = some (.mem true sp ls)) (hs : sizeL ls' = sizeL ls) (hc : ∀ cs, CellsL ρ ls cs → CellsL ρ ls' cs) :
    ConcM ρ ((a, .mem true sp ls') :: M) w ∧ Step ρ M ρ ((a, .mem true sp ls') :: M) w w := by
  obtain ⟨cs, c1, c2, c3, c4⟩ := h.sat a _ ha
  have hlen : cs.length = sizeL ls := c1.length
  have := h.write (sp' := sp) ha (q := 0) (nc := []) ⟨rfl, rfl, rfl, fun _ _ => rfl, fun _ _ => rfl, fun j v h => by simp at h, fun _ _ _ => rfl, fun _ _ => rfl⟩ (by simp) (hc cs c1) (by rw [hs]) (fun cs' d1 d2 j v hj => c3 j v hj)
  exact this

theorem ghostM_sound {w : World} : ∀ {gs : List Gh} {M : Mm} {ps : List Prop} {M' : Mm}, ghostM gs M = some (ps, M') → All ps → ∀ {ρ : Env}, ConcM ρ M w → ∃ ρ', ρ.le ρ' ∧ ConcM ρ' M' w ∧ Step ρ M ρ' M' w w
  | [], M, ps, M', h, _, ρ, hM => by
    simp only [ghostM, Option.some.injEq, Prod.mk.injEq] at h
    obtain ⟨_, rfl⟩ := h
    exact ⟨ρ, Env.le_refl _, hM, Step.refl _ _ _⟩
  | .own nm l0 :: r, M, ps, M', h, hp, ρ, hM => by
    simp only [ghostM] at h
    split at h
    · cases h
    · rename_i hn
      split at h
      · rename_i qs M1 hr
        simp only [Option.some.injEq, Prod.mk.injEq] at h; obtain ⟨rfl, rfl⟩ := h
        have hnil := hp.head
        have hz := nilL_size hnil
        obtain ⟨k1, k2, k3⟩ := hM.claim (b := 0) (o := 0) (sp := 0) hn (nilL_cells ρ hnil) (fun j v hj => by simp at hj) (fun p h1 h2 => by rw [hz] at h2; omega) (fun j hj => by rw [hz] at hj; omega)
        have hst : Step ρ M (ρ.add nm (0, 0)) ((nm, .mem true 0 l0) :: M) w w := by
          refine ⟨Nat.le_refl _, rfl, rfl, fun _ _ _ => rfl, fun _ _ _ _ => ⟨rfl, rfl⟩, fun k p _ ho => ?_, fun _ _ _ h => Or.inl h⟩
          rcases k3 k p ho with h | ⟨_, h1, h2⟩
          · exact h
          · rw [hz] at h2; omega
        obtain ⟨ρ', l1, l2, l3⟩ := ghostM_sound hr hp.tail k2
        exact ⟨ρ', Env.le_trans k1 l1, l2, hst.trans l3⟩
      · cases h
  | .leaf a k nm :: r, M, ps, M', h, hp, ρ, hM => by
    simp only [ghostM] at h
    split at h
    · cases h
    · rename_i e hn
      split at h
      · rename_i sp ls ha
        split at h
        · rename_i ls' hl
          obtain ⟨k1, k2⟩ := hM.tell ha (nilAt_size hl) (fun cs hc => nilAt_cells (hM.mod nm e hn) hl hc)
          obtain ⟨ρ', l1, l2, l3⟩ := ghostM_sound h hp k1
          exact ⟨ρ', l1, l2, k2.trans l3⟩
        · cases h
      · cases h

theorem nilS_sound {N : Nat} {ρ : Env} {M : Mm} {a : Act} {w : World} : ∀ {sl : List (Nat × Nat)} {T T' : Tm}, nilS sl T M = some T' → Conc N ρ T M a w → Conc N ρ T' M a w
  | [], T, T', h, hc => by
    simp only [nilS, Option.some.injEq] at h; subst h; exact hc
  | (d, nm) :: r, T, T', h, hc => by
    simp only [nilS] at h
    split at h
    · cases h
    · rename_i e hn
      split at h
      · rename_i hd
        split at h
        · rename_i T1 hr
          simp only [Option.some.injEq] at h; subst h
          have h1 := nilS_sound hr hc
          have ht := hc.tm d
          rw [hd] at ht
          refine ⟨h1.toConcM, h1.sz, h1.defers, fun s => ?_⟩
          by_cases hs : s = d
          · subst hs
            rw [getT_cons_self]
            exact RelT_of_Rel ⟨hc.mod nm e hn, Nat.le_refl _, none, ht, fun hc => absurd rfl hc⟩
          · rw [getT_cons_ne hs]; exact h1.tm s
        · cases h
      · cases h

end Go.Sx

namespace Go.Sx
open Go

def Env.lim (ρ : Env) (M : Mm) : Env := ⟨fun a => ρ.dom a ∧ (getM M a).isSome = true, ρ.pos, ρ.imm⟩

theorem Env.lim_le (ρ : Env) (M : Mm) : (ρ.lim M).le ρ := ⟨fun _ h => ⟨h.1, rfl⟩, fun _ _ _ h => h⟩
theorem Env.lim_mono (ρ : Env) {M M' : Mm} (h : ∀ a e, getM M a = some e → ∃ e', getM M' a = some e') : (ρ.lim M).le (ρ.lim M') := by
  refine ⟨fun a ha => ⟨⟨ha.1, ?_⟩, rfl⟩, fun _ _ _ h => h⟩
  obtain ⟨e, he⟩ := Option.isSome_iff_exists.1 ha.2
  obtain ⟨e', he'⟩ := h a e he
  rw [he']; rfl
theorem Env.lim_env {ρ ρ' : Env} (h : ρ.le ρ') (M : Mm) : (ρ.lim M).le (ρ'.lim M) := ⟨fun a ha => ⟨⟨(h a ha.1).1, ha.2⟩, (h a ha.1).2⟩, h.im⟩

theorem getM_append : ∀ (E M : Mm) (a : Nat), getM (E ++ M) a = match getM E a with
    | some e => some e
    | none => getM M a
  | [], M, a => rfl
  | (k, e) :: r, M, a => by
    by_cases h : a = k
    · subst h; rw [List.cons_append, getM_cons_self, getM_cons_self]
    · rw [List.cons_append, getM_cons_ne h, getM_cons_ne h]; exact getM_append r M a

theorem getM_append_new {E M : Mm} {a : Nat} {e : Ent} (h : getM E a = some e) : getM (E ++ M) a = some e := by rw [getM_append, h]
theorem getM_append_old {E M : Mm} {a : Nat} (h : getM E a = none) : getM (E ++ M) a = getM M a := by rw [getM_append, h]

theorem ConcM.congr {ρ : Env} {M M' : Mm} {w : World} (he : ∀ a, getM M a = getM M' a) (h : ConcM ρ M w) : ConcM ρ M' w where
  dom a ha := by rw [← he]; exact h.dom a ha
  mod a e hm := h.mod a e (by rw [he]; exact hm)
  sat a e hm := h.sat a e (by rw [he]; exact hm)
  sep a b e e' ha hb := h.sep a b e e' (by rw [he]; exact ha) (by rw [he]; exact hb)
  imm := h.imm
  isep b o hi ho := h.isep b o hi (by obtain ⟨a, e, h1, h2⟩ := ho; exact ⟨a, e, by rw [he]; exact h1, h2⟩)

theorem Owns.congr {ρ : Env} {M M' : Mm} (he : ∀ a, getM M a = getM M' a) {b o : Nat} (h : Owns ρ M b o) : Owns ρ M' b o := by
  obtain ⟨a, e, h1, h2⟩ := h
  exact ⟨a, e, by rw [← he]; exact h1, h2⟩

theorem Step.congr {ρ ρ' : Env} {M M' M'' : Mm} {w w' : World} (he : ∀ a, getM M' a = getM M'' a) (h : Step ρ M ρ' M' w w') : Step ρ M ρ' M'' w w' :=
  ⟨h.size, h.os, h.output, h.blk, h.cell, fun b o hb ho => h.own b o hb (ho.congr fun a => (he a).symm), h.immo⟩

theorem SatE.lim {ρ : Env} {M : Mm} {w : World} {pos : Nat × Nat} {e : Ent} (h : SatE (ρ.lim M) w pos e) : SatE ρ w pos e :=
  SatE.of_same (Env.lim_le ρ M) (Nat.le_refl _) (fun _ _ _ => ⟨rfl, rfl⟩) h

theorem RelS.both {ρ ρ' : Env} {M : Mm} (hd : ∀ a, ρ'.dom a → (getM M a).isSome = true) {v : SV} {x x' : Value} (r : RelS ρ v x) (r' : RelS ρ' v x') : RelS (ρ.lim M) v x := by
  cases v <;> simp only [RelS] at r r' ⊢ <;> try exact r
  case ptr a f i => exact ⟨⟨r.1, hd _ r'.1⟩, r.2⟩
  case sl a f i n c => exact ⟨⟨r.1, hd _ r'.1⟩, r.2⟩
  case slx a f i n => exact ⟨⟨r.1, hd _ r'.1⟩, r.2⟩
  case fn f cap => exact ⟨fun p hp => ⟨r.1 p hp, hd _ (r'.1 p hp)⟩, r.2⟩
  case mp a => exact ⟨⟨r.1, hd _ r'.1⟩, r.2⟩
  case ep a f q s => exact ⟨⟨r.1, hd _ r'.1⟩, r.2⟩

theorem Cells1.both {ρ ρ' : Env} {M : Mm} (hd : ∀ a, ρ'.dom a → (getM M a).isSome = true) {v : SV} {cs cs' : List Value} (r : Cells1 ρ v cs) (r' : Cells1 ρ' v cs') : Cells1 (ρ.lim M) v cs := by
  cases v <;> simp only [Cells1] at r r' ⊢ <;> first | exact r | (obtain ⟨x, hx, rfl⟩ := r; obtain ⟨x', hx', _⟩ := r'; exact ⟨x, hx.both hd hx', rfl⟩) | exact ⟨r.1, fun q hq => r.2 q hq⟩

theorem CellsL.both {ρ ρ' : Env} {M : Mm} (hd : ∀ a, ρ'.dom a → (getM M a).isSome = true) : ∀ {ls : List (Nat × SV)} {cs cs' : List Value}, CellsL ρ ls cs → CellsL ρ' ls cs' → CellsL (ρ.lim M) ls cs
  | [], _, _, r, _ => r
  | (_, _) :: _, _, _, ⟨c1, c2, e, hl, h1, h2⟩, ⟨_, _, _, _, k1, k2⟩ => ⟨c1, c2, e, hl, h1.both hd k1, CellsL.both hd h2 k2⟩

theorem Rel.both {ρ ρ' : Env} {M : Mm} (hd : ∀ a, ρ'.dom a → (getM M a).isSome = true) {v : SV} {x x' : Value} (r : Rel ρ v x) (r' : Rel ρ' v x') : Rel (ρ.lim M) v x := by
  cases v <;> simp only [Rel] at r r' ⊢ <;> first | exact r | exact RelS.both hd r r' | (obtain ⟨cs, hc, e⟩ := r; obtain ⟨cs', hc', _⟩ := r'; exact ⟨cs, hc.both hd hc', e⟩)

theorem RelL.both {ρ ρ' : Env} {M : Mm} (hd : ∀ a, ρ'.dom a → (getM M a).isSome = true) : ∀ {vs : List SV} {xs xs' : List Value}, RelL ρ vs xs → RelL ρ' vs xs' → RelL (ρ.lim M) vs xs
  | [], _, _, r, _ => r
  | _ :: _, _, _, ⟨x, ys, e, h1, h2⟩, ⟨_, _, _, k1, k2⟩ => ⟨x, ys, e, h1.both hd k1, RelL.both hd h2 k2⟩

theorem RelT.both {ρ ρ' : Env} {M : Mm} (hd : ∀ a, ρ'.dom a → (getM M a).isSome = true) {v : SV} {x x' : Value} (r : RelT ρ v x) (r' : RelT ρ' v x') : RelT (ρ.lim M) v x := by
  cases v <;> simp only [RelT] at r r' ⊢ <;> first | exact Rel.both hd r r' | (obtain ⟨xs, hx, e⟩ := r; obtain ⟨xs', hx', _⟩ := r'; exact ⟨xs, hx.both hd hx', e⟩)

/-- A value that names nothing outside a memory. -/
def ToldT (M : Mm) (v : SV) : Prop := ∃ (ρ : Env) (x : Value), (∀ a, ρ.dom a → (getM M a).isSome = true) ∧ RelT ρ v x
def ToldE (M : Mm) (e : Ent) : Prop := ∃ (ρ : Env) (w : World) (pos : Nat × Nat), (∀ a, ρ.dom a → (getM M a).isSome = true) ∧ SatE ρ w pos e

theorem ToldT.rel {M : Mm} {v : SV} (h : ToldT M v) {ρ : Env} {x : Value} (r : RelT ρ v x) : RelT (ρ.lim M) v x := by
  obtain ⟨ρ', x', hd, r'⟩ := h
  exact r.both hd r'

theorem ToldE.sat {M : Mm} {e : Ent} (h : ToldE M e) {ρ : Env} {w : World} {pos : Nat × Nat} (r : SatE ρ w pos e) : SatE (ρ.lim M) w pos e := by
  obtain ⟨ρ', w', pos', hd, r'⟩ := h
  cases e with
  | dead => trivial
  | mem own sp ls =>
    obtain ⟨cs, h1, h2, h3, h4⟩ := r
    obtain ⟨cs', k1, _⟩ := r'
    exact ⟨cs, h1.both hd k1, h2, h3, h4⟩

theorem ToldT.mono {M M' : Mm} (h : ∀ a e, getM M a = some e → ∃ e', getM M' a = some e') {v : SV} (t : ToldT M v) : ToldT M' v := by
  obtain ⟨ρ', x', hd, r'⟩ := t
  refine ⟨ρ', x', fun a ha => ?_, r'⟩
  obtain ⟨e, he⟩ := Option.isSome_iff_exists.1 (hd a ha)
  obtain ⟨e', he'⟩ := h a e he
  rw [he']; rfl

theorem ToldE.mono {M M' : Mm} (h : ∀ a e, getM M a = some e → ∃ e', getM M' a = some e') {v : Ent} (t : ToldE M v) : ToldE M' v := by
  obtain ⟨ρ', w', x', hd, r'⟩ := t
  refine ⟨ρ', w', x', fun a ha => ?_, r'⟩
  obtain ⟨e, he⟩ := Option.isSome_iff_exists.1 (hd a ha)
  obtain ⟨e', he'⟩ := h a e he
  rw [he']; rfl

theorem ConcM.told {ρ : Env} {M : Mm} {w : World} (h : ConcM ρ M w) {a : Nat} {e : Ent} (he : getM M a = some e) : ToldE M e :=
  ⟨ρ, w, _, fun b hb => Option.isSome_iff_exists.2 (h.dom b hb), h.sat a e he⟩
theorem ConcM.toldT {ρ : Env} {M : Mm} {w : World} (h : ConcM ρ M w) {v : SV} {x : Value} (r : RelT ρ v x) : ToldT M v :=
  ⟨ρ, x, fun b hb => Option.isSome_iff_exists.2 (h.dom b hb), r⟩

/-- Nothing is told of a part but what the part itself names. -/
structure Sub (Mi M : Mm) : Prop where
  sub : ∀ a e, getM Mi a = some e → getM M a = some e
  told : ∀ a e, getM Mi a = some e → ToldE Mi e

theorem Sub.conc {ρ : Env} {Mi M : Mm} {w : World} (hs : Sub Mi M) (h : ConcM ρ M w) : ConcM (ρ.lim Mi) Mi w where
  dom a ha := Option.isSome_iff_exists.1 ha.2
  mod a e he := ⟨h.mod a e (hs.sub a e he), by rw [he]; rfl⟩
  sat a e he := (hs.told a e he).sat (h.sat a e (hs.sub a e he))
  sep a b e e' ha hb := h.sep a b e e' (hs.sub a e ha) (hs.sub b e' hb)
  imm := h.imm
  isep b o hi ho := h.isep b o hi (by obtain ⟨a, e, h1, h2⟩ := ho; exact ⟨a, e, hs.sub a e h1, h2⟩)

/-- What was run on a part, told of the whole. -/
theorem ConcM.frame {ρ ρ' : Env} {M Mi E : Mm} {w w' : World} (h : ConcM ρ M w) (hs : Sub Mi M) (hle : (ρ.lim Mi).le ρ') (h' : ConcM ρ' (E ++ Mi) w') (hst : Step (ρ.lim Mi) Mi ρ' (E ++ Mi) w w')
    (hE : ∀ a e, getM E a = some e → getM M a = none ∧ e.loose = true) :
    ∃ ρ'', ρ.le ρ'' ∧ ρ'.le ρ'' ∧ ConcM ρ'' (E ++ M) w' ∧ Step ρ M ρ'' (E ++ M) w w' := by
  have hMi : ∀ {a e}, getM Mi a = some e → getM M a = some e := fun {a e} he => hs.sub a e he
  have hEM : ∀ {a e}, getM M a = some e → getM E a = none := by
    intro a e he
    cases hx : getM E a with
    | none => rfl
    | some e' => rw [(hE a e' hx).1] at he; cases he
  have hEi : ∀ {a e}, getM Mi a = some e → getM (E ++ Mi) a = some e := fun {a e} he => by
    rw [getM_append_old (hEM (hMi he))]; exact he
  have posi : ∀ {a e}, getM Mi a = some e → ρ'.pos a = ρ.pos a := fun {a e} he => (hle a ⟨h.mod a e (hMi he), by rw [he]; rfl⟩).2
  -- where ρ and ρ' both name, they agree
  have both : ∀ {a}, ρ.dom a → ρ'.dom a → ρ'.pos a = ρ.pos a := by
    intro a h1 h2
    obtain ⟨e, he⟩ := h'.dom a h2
    obtain ⟨e0, he0⟩ := h.dom a h1
    rw [getM_append_old (hEM he0)] at he
    exact posi he
  classical
  let ρ2 : Env := ⟨fun a => ρ.dom a ∨ ρ'.dom a, fun a => if ρ.dom a then ρ.pos a else ρ'.pos a, ρ'.imm⟩
  have p1 : ∀ {a}, ρ.dom a → ρ2.pos a = ρ.pos a := fun {a} ha => by simp only [ρ2]; rw [if_pos ha]
  have p2 : ∀ {a}, ρ'.dom a → ρ2.pos a = ρ'.pos a := fun {a} ha => by
    by_cases hd : ρ.dom a
    · rw [p1 hd, both hd ha]
    · simp only [ρ2]; rw [if_neg hd]
  have l1 : ρ.le ρ2 := ⟨fun a ha => ⟨Or.inl ha, p1 ha⟩, hle.im⟩
  have l2 : ρ'.le ρ2 := ⟨fun a ha => ⟨Or.inr ha, p2 ha⟩, fun _ _ _ h => h⟩
  have ownI : ∀ {b o}, Owns (ρ.lim Mi) Mi b o → Owns ρ M b o := by
    rintro b o ⟨a, e, h1, h2, h3⟩
    exact ⟨a, e, hMi h1, h2, h3⟩
  -- a name of the whole that the part does not have is left as it was
  have rest : ∀ {a e}, getM M a = some e → getM Mi a = none → ∀ b o, foot (ρ.pos a) e b o → b < w.heap.size ∧ ¬ Owns (ρ.lim Mi) Mi b o := by
    intro a e he hn b o hf
    refine ⟨foot_lt (h.sat a e he) hf, ?_⟩
    rintro ⟨c, e', h1, h2, h3⟩
    have hne : c ≠ a := by rintro rfl; rw [hn] at h1; cases h1
    exact h.sep c a e' e (hMi h1) he hne h2 b o h3 hf
  -- the whole, name by name
  have cases' : ∀ {a e}, getM (E ++ M) a = some e → (getM (E ++ Mi) a = some e ∧ ρ'.dom a ∧ (getM E a = some e ∨ getM Mi a = some e)) ∨ (getM M a = some e ∧ getM Mi a = none ∧ getM E a = none ∧ ρ.dom a) := by
    intro a e he
    cases hx : getM E a with
    | some e' =>
      rw [getM_append_new hx] at he
      have : getM (E ++ Mi) a = some e := by rw [getM_append_new hx]; exact he
      exact Or.inl ⟨this, h'.mod a e this, Or.inl (by rw [← he])⟩
    | none =>
      rw [getM_append_old hx] at he
      cases hy : getM Mi a with
      | some e' =>
        have := hMi hy
        rw [he] at this
        simp only [Option.some.injEq] at this; subst this
        exact Or.inl ⟨hEi hy, h'.mod a e (hEi hy), Or.inr rfl⟩
      | none => exact Or.inr ⟨he, rfl, rfl, h.mod a e he⟩
  have isep2 : ∀ b o, ImmC ρ2 b o → ¬ Owns ρ2 (E ++ M) b o := by
    rintro b o hi ⟨a, e, ha, ho, hf⟩
    rcases cases' ha with ⟨h1, h2, _⟩ | ⟨h1, h2, _, h4⟩
    · rw [p2 h2] at hf
      exact h'.isep b o hi ⟨a, e, h1, ho, hf⟩
    · rw [p1 h4] at hf
      obtain ⟨q1, q2⟩ := rest h1 h2 b o hf
      rcases hst.immo b o q1 hi with h5 | h5
      · exact h.isep b o h5 ⟨a, e, h1, ho, hf⟩
      · exact q2 h5
  refine ⟨ρ2, l1, l2, ⟨?_, ?_, ?_, ?_, h'.imm, isep2⟩, hst.size, hst.os, hst.output, ?_, ?_, ?_, fun b o hb hi => (hst.immo b o hb hi).imp (fun h => h) ownI⟩
  · rintro a (ha | ha)
    · obtain ⟨e, he⟩ := h.dom a ha
      exact ⟨e, by rw [getM_append_old (hEM he)]; exact he⟩
    · obtain ⟨e, he⟩ := h'.dom a ha
      cases hx : getM E a with
      | some e' => exact ⟨e', getM_append_new hx⟩
      | none =>
        rw [getM_append_old hx] at he
        exact ⟨e, by rw [getM_append_old hx]; exact hMi he⟩
  · intro a e he
    rcases cases' he with ⟨_, h2, _⟩ | ⟨_, _, _, h2⟩
    · exact Or.inr h2
    · exact Or.inl h2
  · intro a e he
    rcases cases' he with ⟨h1, h2, _⟩ | ⟨h1, h2, _, h4⟩
    · rw [p2 h2]
      exact SatE.of_same l2 (Nat.le_refl _) (fun _ _ _ => ⟨rfl, rfl⟩) (h'.sat a e h1)
    · rw [p1 h4]
      exact SatE.of_same l1 hst.size (fun b o hf => by
        obtain ⟨q1, q2⟩ := rest h1 h2 b o hf
        exact hst.cell b o q1 q2) (h.sat a e h1)
  · intro a b e e' ha hb hne ho k o hf hf'
    rcases cases' ha with ⟨a1, a2, a3⟩ | ⟨a1, a2, a3, a4⟩
    · rw [p2 a2] at hf
      rcases cases' hb with ⟨b1, b2, _⟩ | ⟨b1, b2, b3, b4⟩
      · rw [p2 b2] at hf'
        exact h'.sep a b e e' a1 b1 hne ho k o hf hf'
      · rw [p1 b4] at hf'
        obtain ⟨q1, q2⟩ := rest b1 b2 k o hf'
        exact q2 (hst.own k o q1 ⟨a, e, a1, ho, hf⟩)
    · rw [p1 a4] at hf
      rcases cases' hb with ⟨b1, b2, b3⟩ | ⟨b1, b2, b3, b4⟩
      · rw [p2 b2] at hf'
        rcases b3 with b3 | b3
        · obtain ⟨q1, q2⟩ := rest a1 a2 k o hf
          have hl := (hE b e' b3).2
          cases e' with
          | dead => exact hf'
          | mem own' sp' ls' =>
            cases own' with
            | true => exact q2 (hst.own k o q1 ⟨b, _, b1, rfl, hf'⟩)
            | false =>
              simp only [Ent.loose, Bool.false_or, bne_iff_ne] at hl
              obtain ⟨_, _, k2, _⟩ := h'.sat b _ b1
              have hi := h'.immO_sep (k2.2 rfl hl) (k := k) (p := o) hf'
              rcases hst.immo k o q1 hi with h5 | h5
              · exact h.isep k o h5 ⟨a, e, a1, ho, hf⟩
              · exact q2 h5
        · rw [posi b3] at hf'
          exact h.sep a b e e' a1 (hMi b3) hne ho k o hf hf'
      · rw [p1 b4] at hf'
        exact h.sep a b e e' a1 b1 hne ho k o hf hf'
  · intro b hb ho
    exact hst.blk b hb fun o hc => ho o (ownI hc)
  · intro b o hb ho
    exact hst.cell b o hb fun hc => ho (ownI hc)
  · rintro b o hb ⟨a, e, ha, ho, hf⟩
    rcases cases' ha with ⟨h1, h2, _⟩ | ⟨h1, h2, _, h4⟩
    · rw [p2 h2] at hf
      exact ownI (hst.own b o hb ⟨a, e, h1, ho, hf⟩)
    · rw [p1 h4] at hf
      exact ⟨a, e, h1, ho, hf⟩

/-- The frame's slots behind an operation. -/
theorem Oper.wp_put {P : Program} {o : Oper} {a : Act} {w : World} {K : Act → World → Prop} {Q : Exit → Act → World → Prop} (h : o.wp P a w K Q) :
    o.wp P a w (fun a' w' => (∃ x, a'.tmps = (a.put o.dst x).tmps) ∧ K a' w') Q := by
  have hd : ∀ d x, ({ a with defers := d :: a.defers }.put o.dst x).tmps = (a.put o.dst x).tmps := by
    intro d x
    unfold Act.put
    cases o.dst <;> rfl
  unfold Oper.wp at *
  generalize (execOp a.eval o).run P w = r at *
  cases r with
  | ok n w' =>
    cases n <;> simp only [Oper.upon] at h ⊢
    case value v => exact ⟨⟨v, rfl⟩, h⟩
    case skip => exact ⟨⟨undef, rfl⟩, h⟩
    case defer d => exact ⟨⟨undef, hd d _⟩, h⟩
    case enter f args =>
      refine Calls.mono h fun e w'' he => ?_
      cases e with
      | returned v => exact ⟨⟨v, rfl⟩, he⟩
      | panicked c => exact he
      | outgrown => exact he
    case row row args => exact Rows.mono h fun u w'' he => ⟨⟨u, rfl⟩, he⟩
  | halt x w' =>
    cases x <;> simp only [Oper.upon] at h ⊢
    exact h

end Go.Sx

namespace Go.Sx
open Go

structure Rec where
  ix : Nat
  dst : Option Nat
  v : SV
  new : Mm
  dep : List Nat
  rd : List Nat

def recT (p : Nat → Bool) (T0 : Tm) : List Rec → Tm
  | [] => T0
  | r :: q => bif p r.ix then putT r.dst r.v (recT p T0 q) else recT p T0 q

def recM (p : Nat → Bool) (M0 : Mm) : List Rec → Mm
  | [] => M0
  | r :: q => bif p r.ix then r.new ++ recM p M0 q else recM p M0 q

def restr (T : Tm) : List Nat → Tm
  | [] => []
  | s :: r => (s, getT T s) :: restr T r

def allB (_ : Nat) : Bool := true
def inB (l : List Nat) (j : Nat) : Bool := memB j l
def plus (p : Nat → Bool) (i : Nat) : Nat → Bool := fun j => Nat.beq j i || p j

theorem plus_self (p : Nat → Bool) (i : Nat) : plus p i i = true := by simp [plus]
theorem plus_old {p : Nat → Bool} {i j : Nat} (h : p j = true) : plus p i j = true := by simp [plus, h]
theorem plus_ne {p : Nat → Bool} {i j : Nat} (h : j ≠ i) : plus p i j = p j := by
  have : Nat.beq j i = false := by
    cases hb : Nat.beq j i with
    | false => rfl
    | true => exact absurd (beq_eq' hb) h
  simp [plus, this]
theorem plus_cases {p : Nat → Bool} {i j : Nat} (h : plus p i j = true) : j = i ∨ p j = true := by
  by_cases hj : j = i
  · exact Or.inl hj
  · rw [plus_ne hj] at h; exact Or.inr h

/-- The new names are new. -/
def wfM (M0 : Mm) : List Rec → Prop
  | [] => True
  | r :: q => (∀ a e, getM r.new a = some e → getM (recM allB M0 q) a = none ∧ e.loose = true) ∧ wfM M0 q

section
variable {M0 : Mm}

theorem recM_inv {p : Nat → Bool} : ∀ {rs : List Rec} {a : Nat} {e : Ent}, getM (recM p M0 rs) a = some e → getM M0 a = some e ∨ ∃ r ∈ rs, p r.ix = true ∧ getM r.new a = some e
  | [], _, _, h => Or.inl h
  | r :: q, a, e, h => by
    simp only [recM] at h
    cases hp : p r.ix with
    | false =>
      rw [hp, cond_false] at h
      rcases recM_inv h with h | ⟨r', h1, h2⟩
      · exact Or.inl h
      · exact Or.inr ⟨r', List.mem_cons_of_mem _ h1, h2⟩
    | true =>
      rw [hp, cond_true] at h
      cases hx : getM r.new a with
      | some e' => rw [getM_append_new hx] at h; exact Or.inr ⟨r, by simp, hp, by rw [hx, h]⟩
      | none =>
        rw [getM_append_old hx] at h
        rcases recM_inv h with h | ⟨r', h1, h2⟩
        · exact Or.inl h
        · exact Or.inr ⟨r', List.mem_cons_of_mem _ h1, h2⟩

theorem recM_mono {p : Nat → Bool} : ∀ {rs : List Rec} {q : Nat → Bool} (_ : wfM M0 rs) (_ : ∀ r ∈ rs, p r.ix = true → q r.ix = true) {a : Nat} {e : Ent}, getM (recM p M0 rs) a = some e → getM (recM q M0 rs) a = some e
  | [], _, _, _, _, _, h => h
  | r :: t, q, hw, hpq, a, e, h => by
    simp only [recM] at h ⊢
    have ih : getM (recM p M0 t) a = some e → getM (recM q M0 t) a = some e := recM_mono hw.2 fun r' hr' => hpq r' (List.mem_cons_of_mem _ hr')
    have ia : getM (recM p M0 t) a = some e → getM (recM allB M0 t) a = some e := recM_mono hw.2 fun _ _ _ => rfl
    have fresh : getM (recM p M0 t) a = some e → getM r.new a = none := fun h => by
      cases hx : getM r.new a with
      | none => rfl
      | some e' => have := (hw.1 a e' hx).1; rw [ia h] at this; cases this
    cases hp : p r.ix with
    | false =>
      rw [hp, cond_false] at h
      cases hq : q r.ix with
      | false => rw [cond_false]; exact ih h
      | true => rw [cond_true, getM_append_old (fresh h)]; exact ih h
    | true =>
      rw [hpq r (by simp) hp, cond_true]
      rw [hp, cond_true] at h
      cases hx : getM r.new a with
      | some e' => rw [getM_append_new hx] at h ⊢; exact h
      | none => rw [getM_append_old hx] at h ⊢; exact ih h

theorem recM_none : ∀ (rs : List Rec), recM (fun _ => false) M0 rs = M0
  | [] => rfl
  | r :: q => by simp only [recM, cond_false]; exact recM_none q

theorem recM_base {p : Nat → Bool} {rs : List Rec} (hw : wfM M0 rs) {a : Nat} {e : Ent} (h : getM M0 a = some e) : getM (recM p M0 rs) a = some e :=
  recM_mono (p := fun _ => false) hw (fun _ _ h => by cases h) (by rw [recM_none]; exact h)

theorem recM_rec {p : Nat → Bool} : ∀ {rs : List Rec} (_ : wfM M0 rs) {r : Rec} (_ : r ∈ rs) (_ : p r.ix = true) {a : Nat} {e : Ent}, getM r.new a = some e → getM (recM p M0 rs) a = some e
  | [], _, _, hr, _, _, _, _ => by simp at hr
  | r0 :: t, hw, r, hr, hp, a, e, h => by
    simp only [recM]
    rcases List.mem_cons.1 hr with rfl | hr
    · rw [hp, cond_true]; exact getM_append_new h
    · have ih := recM_rec (p := p) hw.2 hr hp h
      cases hp0 : p r0.ix with
      | false => rw [cond_false]; exact ih
      | true =>
        rw [cond_true, getM_append_old]; · exact ih
        cases hx : getM r0.new a with
        | none => rfl
        | some e' =>
          have h1 := (hw.1 a e' hx).1
          rw [recM_rec (p := allB) hw.2 hr rfl h] at h1; cases h1

theorem recM_plus {p : Nat → Bool} {rs : List Rec} (hw : wfM M0 rs) (hu : ∀ r ∈ rs, ∀ r' ∈ rs, r.ix = r'.ix → r = r') {r : Rec} (hr : r ∈ rs) (hp : p r.ix = false) (a : Nat) :
    getM (recM (plus p r.ix) M0 rs) a = getM (r.new ++ recM p M0 rs) a := by
  cases hx : getM r.new a with
  | some e => rw [getM_append_new hx]; exact recM_rec hw hr (plus_self _ _) hx
  | none =>
    rw [getM_append_old hx]
    cases hy : getM (recM p M0 rs) a with
    | some e => exact recM_mono hw (fun _ _ h => plus_old h) hy
    | none =>
      cases hz : getM (recM (plus p r.ix) M0 rs) a with
      | none => rfl
      | some e =>
        rcases recM_inv hz with h | ⟨r', h1, h2, h3⟩
        · rw [recM_base hw h] at hy; cases hy
        · rcases plus_cases h2 with h2 | h2
          · have := hu r' h1 r hr h2; subst this
            rw [hx] at h3; cases h3
          · rw [recM_rec hw h1 h2 h3] at hy; cases hy

theorem recM_congr {p q : Nat → Bool} : ∀ {rs : List Rec}, (∀ r ∈ rs, p r.ix = q r.ix) → recM p M0 rs = recM q M0 rs
  | [], _ => rfl
  | r :: t, h => by simp only [recM]; rw [h r (by simp), recM_congr fun r' hr' => h r' (List.mem_cons_of_mem _ hr')]
theorem recT_congr {T0 : Tm} {p q : Nat → Bool} : ∀ {rs : List Rec}, (∀ r ∈ rs, p r.ix = q r.ix) → recT p T0 rs = recT q T0 rs
  | [], _ => rfl
  | r :: t, h => by simp only [recT]; rw [h r (by simp), recT_congr fun r' hr' => h r' (List.mem_cons_of_mem _ hr')]
end

theorem recT_get {p : Nat → Bool} {T0 : Tm} : ∀ (rs : List Rec) (s : Nat),
    (∃ r ∈ rs, p r.ix = true ∧ r.dst = some s ∧ getT (recT p T0 rs) s = r.v) ∨ ((∀ r ∈ rs, p r.ix = true → r.dst ≠ some s) ∧ getT (recT p T0 rs) s = getT T0 s)
  | [], _ => Or.inr ⟨by simp, rfl⟩
  | r :: t, s => by
    simp only [recT]
    have lift : (∃ r' ∈ t, p r'.ix = true ∧ r'.dst = some s ∧ getT (recT p T0 t) s = r'.v) ∨ ((∀ r' ∈ t, p r'.ix = true → r'.dst ≠ some s) ∧ getT (recT p T0 t) s = getT T0 s) := recT_get t s
    cases hp : p r.ix with
    | false =>
      rw [cond_false]
      rcases lift with ⟨r', h1, h2, h3, h4⟩ | ⟨h1, h2⟩
      · exact Or.inl ⟨r', List.mem_cons_of_mem _ h1, h2, h3, h4⟩
      · refine Or.inr ⟨fun r' hr' hp' => ?_, h2⟩
        rcases List.mem_cons.1 hr' with rfl | hr'
        · rw [hp] at hp'; cases hp'
        · exact h1 r' hr' hp'
    | true =>
      rw [cond_true]
      cases hd : r.dst with
      | none =>
        simp only [putT]
        rcases lift with ⟨r', h1, h2, h3, h4⟩ | ⟨h1, h2⟩
        · exact Or.inl ⟨r', List.mem_cons_of_mem _ h1, h2, h3, h4⟩
        · refine Or.inr ⟨fun r' hr' hp' => ?_, h2⟩
          rcases List.mem_cons.1 hr' with rfl | hr'
          · rw [hd]; simp
          · exact h1 r' hr' hp'
      | some d =>
        simp only [putT]
        by_cases hs : s = d
        · subst hs
          exact Or.inl ⟨r, by simp, hp, hd, getT_cons_self _ _ _⟩
        · rw [getT_cons_ne hs]
          rcases lift with ⟨r', h1, h2, h3, h4⟩ | ⟨h1, h2⟩
          · exact Or.inl ⟨r', List.mem_cons_of_mem _ h1, h2, h3, h4⟩
          · refine Or.inr ⟨fun r' hr' hp' => ?_, h2⟩
            rcases List.mem_cons.1 hr' with rfl | hr'
            · rw [hd]; simpa using fun h => hs h.symm
            · exact h1 r' hr' hp'

theorem restr_get {T : Tm} : ∀ {l : List Nat} {s : Nat}, s ∈ l → getT (restr T l) s = getT T s
  | [], _, h => by simp at h
  | d :: r, s, h => by
    simp only [restr]
    by_cases hs : s = d
    · subst hs; rw [getT_cons_self]
    · rw [getT_cons_ne hs]; exact restr_get ((List.mem_cons.1 h).resolve_left hs)
theorem restr_out {T : Tm} : ∀ {l : List Nat} {s : Nat}, s ∉ l → getT (restr T l) s = .und
  | [], _, _ => rfl
  | d :: r, s, h => by
    simp only [restr]
    rw [getT_cons_ne (fun e => h (by simp [e]))]
    exact restr_out fun hr => h (by simp [hr])

/-- Two operations of a region that do not wait for one another leave one another alone. -/
def Pair (r r' : Rec) : Prop :=
  (∀ s, r'.dst = some s → s ∈ r.rd → r'.ix ∈ r.dep ∨ r.ix ∈ r'.dep) ∧ (∀ s, r.dst = some s → s ∈ r'.rd → r.ix ∈ r'.dep ∨ r'.ix ∈ r.dep) ∧ ∀ s, r.dst = some s → r'.dst ≠ some s

theorem Pair.symm {r r' : Rec} (h : Pair r r') : Pair r' r := ⟨h.2.1, h.1, fun s h1 h2 => h.2.2 s h2 h1⟩

/-- Where a region stands: the operations of p have run. -/
structure Inv (N : Nat) (dep : Nat → List Nat) (bf : List Nat) (T0 : Tm) (M0 : Mm) (rs : List Rec) (p : Nat → Bool) (ρ : Env) (a : Act) (w : World) : Prop where
  wf : wfM M0 rs
  uniq : ∀ r ∈ rs, ∀ r' ∈ rs, r.ix = r'.ix → r = r'
  bfs : ∀ r ∈ rs, r.ix ∈ bf
  done : ∀ j, p j = true → j ∈ bf
  base : ∀ j ∈ bf, p j = true ∨ ∃ r ∈ rs, r.ix = j
  clos : ∀ j, p j = true → ∀ k ∈ dep j, p k = true
  deps : ∀ r ∈ rs, r.dep = dep r.ix
  trans : ∀ r ∈ rs, ∀ k ∈ r.dep, ∀ j ∈ dep k, j ∈ r.dep
  irr : ∀ r ∈ rs, r.ix ∉ r.dep
  below : ∀ r ∈ rs, ∀ k ∈ r.dep, k ∈ bf
  small : ∀ r ∈ rs, ∀ d, r.dst = some d → d < N
  pairs : ∀ r ∈ rs, ∀ r' ∈ rs, r.ix ≠ r'.ix → Pair r r'
  mem : ConcM ρ (recM p M0 rs) w
  sz : a.tmps.size = N
  defers : a.defers = []
  t0 : ∀ s, ToldT M0 (getT T0 s)
  m0 : ∀ b e, getM M0 b = some e → ToldE M0 e
  slot0 : ∀ s, (∀ r ∈ rs, p r.ix = true → r.dst ≠ some s) → RelT ρ (getT T0 s) (a.tmps.getD s undef)
  slotr : ∀ r ∈ rs, p r.ix = true → (∀ d, r.dst = some d → RelT ρ r.v (a.tmps.getD d undef) ∧ ToldT (recM (plus (inB r.dep) r.ix) M0 rs) r.v) ∧
    ∀ b e, getM r.new b = some e → ToldE (recM (plus (inB r.dep) r.ix) M0 rs) e

section
variable {N : Nat} {dep : Nat → List Nat} {bf : List Nat} {T0 : Tm} {M0 : Mm} {rs : List Rec} {p : Nat → Bool} {ρ : Env} {a : Act} {w : World}

/-- What an operation that may run sees. -/
theorem Inv.sees (I : Inv N dep bf T0 M0 rs p ρ a w) {dp rd : List Nat} (hd : ∀ k ∈ dp, p k = true) (ht : ∀ k ∈ dp, ∀ j ∈ dep k, j ∈ dp)
    (hrd : ∀ r ∈ rs, ∀ s, r.dst = some s → s ∈ rd → p r.ix = true → r.ix ∈ dp) :
    Sub (recM (inB dp) M0 rs) (recM p M0 rs) ∧ Conc N (ρ.lim (recM (inB dp) M0 rs)) (restr (recT (inB dp) T0 rs) rd) (recM (inB dp) M0 rs) a w := by
  have hin : ∀ {j}, inB dp j = true → j ∈ dp := fun {j} h => memB_iff.1 h
  have up : ∀ r ∈ rs, r.ix ∈ dp → ∀ b e, getM (recM (plus (inB r.dep) r.ix) M0 rs) b = some e → ∃ e', getM (recM (inB dp) M0 rs) b = some e' := by
    intro r hr hrd' b e he
    refine ⟨e, recM_mono I.wf (fun r' hr' h => ?_) he⟩
    rcases plus_cases h with h | h
    · rw [h]; exact memB_iff.2 hrd'
    · have := memB_iff.1 h
      rw [I.deps r hr] at this
      exact memB_iff.2 (ht r.ix hrd' _ this)
  have hs : Sub (recM (inB dp) M0 rs) (recM p M0 rs) := by
    refine ⟨fun b e he => recM_mono I.wf (fun r _ h => hd _ (hin h)) he, fun b e he => ?_⟩
    rcases recM_inv he with h | ⟨r, h1, h2, h3⟩
    · exact (I.m0 b e h).mono fun b e h => ⟨e, recM_base I.wf h⟩
    · exact ((I.slotr r h1 (hd _ (hin h2))).2 b e h3).mono (up r h1 (hin h2))
  refine ⟨hs, hs.conc I.mem, I.sz, I.defers, fun s => ?_⟩
  by_cases hsr : s ∈ rd
  · rw [restr_get hsr]
    rcases recT_get (p := inB dp) (T0 := T0) rs s with ⟨r, h1, h2, h3, h4⟩ | ⟨h1, h2⟩
    · rw [h4]
      obtain ⟨k1, k2⟩ := (I.slotr r h1 (hd _ (hin h2))).1 s h3
      exact (k2.mono (up r h1 (hin h2))).rel k1
    · rw [h2]
      refine ((I.t0 s).mono fun b e h => ⟨e, recM_base I.wf h⟩).rel (I.slot0 s fun r hr hp hds => ?_)
      exact h1 r hr (memB_iff.2 (hrd r hr s hds hsr hp)) hds
  · rw [restr_out hsr]; exact RelT_of_Rel trivial

/-- One more operation has run. -/
theorem Inv.mark (I : Inv N dep bf T0 M0 rs p ρ a w) {r : Rec} (hr : r ∈ rs) (hi : p r.ix = false) (hd : ∀ k ∈ r.dep, p k = true) {x : Value} {ρ' : Env} {a' : Act} {w' : World}
    (ha : a'.tmps = (a.put r.dst x).tmps) (hdf : a'.defers = []) (hle : ρ.le ρ') (hx : ∀ d, r.dst = some d → RelT ρ' r.v x ∧ ToldT (r.new ++ recM (inB r.dep) M0 rs) r.v)
    (hn : ∀ b e, getM r.new b = some e → ToldE (r.new ++ recM (inB r.dep) M0 rs) e) (hm : ConcM ρ' (r.new ++ recM p M0 rs) w') :
    Inv N dep bf T0 M0 rs (plus p r.ix) ρ' a' w' := by
  have hself : inB r.dep r.ix = false := by
    cases h : inB r.dep r.ix with
    | false => rfl
    | true => exact absurd (memB_iff.1 h) (I.irr r hr)
  have hup : ∀ b e, getM (r.new ++ recM (inB r.dep) M0 rs) b = some e → ∃ e', getM (recM (plus (inB r.dep) r.ix) M0 rs) b = some e' := fun b e h =>
    ⟨e, by rw [recM_plus I.wf I.uniq hr hself]; exact h⟩
  have hput : ∀ s, r.dst ≠ some s → a'.tmps.getD s undef = a.tmps.getD s undef := by
    intro s hs
    rw [ha]
    unfold Act.put
    cases hd : r.dst with
    | none => rfl
    | some d =>
      have hne : d ≠ s := fun e => hs (by rw [hd, e])
      simp only [Array.getD_eq_getD_getElem?]
      rw [Array.getElem?_setIfInBounds_ne hne]
  have hput2 : ∀ s, r.dst = some s → a'.tmps.getD s undef = x := by
    intro s hs
    rw [ha]
    have hlt := I.small r hr s hs
    unfold Act.put
    rw [hs]
    simp only [Array.getD_eq_getD_getElem?]
    rw [Array.getElem?_setIfInBounds_self_of_lt (by rw [I.sz]; exact hlt)]
    rfl
  exact {
    wf := I.wf, uniq := I.uniq, bfs := I.bfs, deps := I.deps, trans := I.trans, irr := I.irr, below := I.below, small := I.small, pairs := I.pairs, t0 := I.t0, m0 := I.m0, defers := hdf
    done := fun j hj => (plus_cases hj).elim (fun h => by rw [h]; exact I.bfs r hr) (I.done j)
    base := fun j hj => (I.base j hj).imp plus_old id
    clos := fun j hj k hk => by
      rcases plus_cases hj with h | h
      · subst h
        rw [← I.deps r hr] at hk
        exact plus_old (hd k hk)
      · exact plus_old (I.clos j h k hk)
    mem := hm.congr fun b => (recM_plus I.wf I.uniq hr hi b).symm
    sz := by
      rw [ha]
      unfold Act.put
      cases r.dst with
      | none => exact I.sz
      | some d => simp only [Array.size_setIfInBounds]; exact I.sz
    slot0 := fun s hs => by
      have h1 := hs r hr (plus_self _ _)
      rw [hput s h1]
      exact (I.slot0 s fun r' hr' hp' => hs r' hr' (plus_old hp')).le hle
    slotr := fun r' hr' hp' => by
      rcases plus_cases hp' with h | h
      · have := I.uniq r' hr' r hr h; subst this
        refine ⟨fun d hds => ?_, fun b e he => (hn b e he).mono hup⟩
        rw [hput2 d hds]
        exact ⟨(hx d hds).1, (hx d hds).2.mono hup⟩
      · have hne : r'.ix ≠ r.ix := fun e => by rw [e, hi] at h; cases h
        obtain ⟨k1, k2⟩ := I.slotr r' hr' h
        refine ⟨fun d hds => ?_, k2⟩
        rw [hput d ((I.pairs r' hr' r hr hne).2.2 d hds)]
        exact ⟨(k1 d hds).1.le hle, (k1 d hds).2⟩ }

/-- One more operation is foreseen. -/
theorem Inv.push (I : Inv N dep bf T0 M0 rs p ρ a w) {r : Rec} (hb : r.ix ∉ bf) (hdep : r.dep = dep r.ix) (ht : ∀ k ∈ r.dep, ∀ j ∈ dep k, j ∈ r.dep) (hbl : ∀ k ∈ r.dep, k ∈ bf)
    (hsm : ∀ d, r.dst = some d → d < N) (hpr : ∀ r' ∈ rs, Pair r r') (hfr : ∀ b e, getM r.new b = some e → getM (recM allB M0 rs) b = none ∧ e.loose = true) :
    Inv N dep (r.ix :: bf) T0 M0 (r :: rs) p ρ a w := by
  have hp : p r.ix = false := by
    cases h : p r.ix with
    | false => rfl
    | true => exact absurd (I.done _ h) hb
  have hne : ∀ r' ∈ rs, r'.ix ≠ r.ix := fun r' hr' e => hb (by rw [← e]; exact I.bfs r' hr')
  have hM : ∀ r' ∈ rs, recM (plus (inB r'.dep) r'.ix) M0 (r :: rs) = recM (plus (inB r'.dep) r'.ix) M0 rs := by
    intro r' hr'
    have h1 : plus (inB r'.dep) r'.ix r.ix = false := by
      rw [plus_ne (hne r' hr').symm]
      cases h : inB r'.dep r.ix with
      | false => rfl
      | true => exact absurd (I.below r' hr' _ (memB_iff.1 h)) hb
    simp only [recM, h1, cond_false]
  exact {
    wf := ⟨hfr, I.wf⟩
    uniq := fun x hx y hy e => by
      rcases List.mem_cons.1 hx with hx' | hx'
      · rcases List.mem_cons.1 hy with hy' | hy'
        · rw [hx', hy']
        · exact absurd (by rw [← e, hx']) (hne y hy')
      · rcases List.mem_cons.1 hy with hy' | hy'
        · exact absurd (by rw [e, hy']) (hne x hx')
        · exact I.uniq x hx' y hy' e
    bfs := fun x hx => by
      rcases List.mem_cons.1 hx with rfl | hx
      · simp
      · exact List.mem_cons_of_mem _ (I.bfs x hx)
    done := fun j hj => List.mem_cons_of_mem _ (I.done j hj)
    base := fun j hj => by
      rcases List.mem_cons.1 hj with rfl | hj
      · exact Or.inr ⟨r, by simp, rfl⟩
      · exact (I.base j hj).imp id fun ⟨r', h1, h2⟩ => ⟨r', List.mem_cons_of_mem _ h1, h2⟩
    clos := I.clos
    deps := fun x hx => by
      rcases List.mem_cons.1 hx with rfl | hx
      · exact hdep
      · exact I.deps x hx
    trans := fun x hx => by
      rcases List.mem_cons.1 hx with rfl | hx
      · exact ht
      · exact I.trans x hx
    irr := fun x hx => by
      rcases List.mem_cons.1 hx with rfl | hx
      · exact fun h => hb (hbl _ h)
      · exact I.irr x hx
    below := fun x hx k hk => by
      rcases List.mem_cons.1 hx with rfl | hx
      · exact List.mem_cons_of_mem _ (hbl k hk)
      · exact List.mem_cons_of_mem _ (I.below x hx k hk)
    small := fun x hx => by
      rcases List.mem_cons.1 hx with rfl | hx
      · exact hsm
      · exact I.small x hx
    pairs := fun x hx y hy e => by
      rcases List.mem_cons.1 hx with hx' | hx'
      · rcases List.mem_cons.1 hy with hy' | hy'
        · exact absurd (by rw [hx', hy']) e
        · rw [hx']; exact hpr y hy'
      · rcases List.mem_cons.1 hy with hy' | hy'
        · rw [hy']; exact (hpr x hx').symm
        · exact I.pairs x hx' y hy' e
    mem := by simp only [recM, hp, cond_false]; exact I.mem
    sz := I.sz
    defers := I.defers
    t0 := I.t0
    m0 := I.m0
    slot0 := fun s hs => I.slot0 s fun r' hr' => hs r' (List.mem_cons_of_mem _ hr')
    slotr := fun x hx hpx => by
      rcases List.mem_cons.1 hx with rfl | hx
      · rw [hp] at hpx; cases hpx
      · rw [hM x hx]; exact I.slotr x hx hpx }

/-- When all that was foreseen has run. -/
theorem Inv.out (I : Inv N dep bf T0 M0 rs p ρ a w) (h : ∀ r ∈ rs, p r.ix = true) : Conc N ρ (recT allB T0 rs) (recM allB M0 rs) a w := by
  have hM : recM p M0 rs = recM allB M0 rs := recM_congr fun r hr => by rw [h r hr]; rfl
  refine ⟨hM ▸ I.mem, I.sz, I.defers, fun s => ?_⟩
  rcases recT_get (p := allB) (T0 := T0) rs s with ⟨r, h1, h2, h3, h4⟩ | ⟨h1, h2⟩
  · rw [h4]; exact ((I.slotr r h1 (h r h1)).1 s h3).1
  · rw [h2]; exact I.slot0 s fun r hr _ => h1 r hr rfl

theorem Inv.start {bf : List Nat} (hc : Conc N ρ T0 M0 a w) (hb : ∀ j, p j = true ↔ j ∈ bf) (hcl : ∀ j, p j = true → ∀ k ∈ dep j, p k = true) : Inv N dep bf T0 M0 [] p ρ a w where
  wf := trivial
  uniq := by simp
  bfs := by simp
  done j h := (hb j).1 h
  base j h := Or.inl ((hb j).2 h)
  clos := hcl
  deps := by simp
  trans := by simp
  irr := by simp
  below := by simp
  small := by simp
  pairs := by simp
  mem := hc.toConcM
  sz := hc.sz
  defers := hc.defers
  t0 s := hc.toConcM.toldT (hc.tm s)
  m0 b e h := hc.toConcM.told h
  slot0 s _ := hc.tm s
  slotr := by simp
end

end Go.Sx

namespace Go.Sx
open Go

def depAt : List (List Nat) → Nat → List Nat
  | [], _ => []
  | d :: _, 0 => d
  | _ :: r, i + 1 => depAt r i

def tmpsOf : List Operand → List Nat
  | [] => []
  | .tmp t :: r => t :: tmpsOf r
  | _ :: r => tmpsOf r
/-- The slot that says whether an operation is run. -/
def gSlot (ops : List Oper) (o : Oper) : List Nat :=
  match o.guard with
  | none => []
  | some (j, _) => match guardSlot ops j with
    | none => []
    | some d => [d]
def looks (ops : List Oper) (o : Oper) : List Nat := gSlot ops o ++ tmpsOf o.op.operands.toList

inductive GV where
  | bad | run | skip
  | split (p : Prop)
  | splitN (p : Prop)

def guardV (ops : List Oper) (dp : List Nat) (o : Oper) (T : Tm) : GV :=
  match o.guard with
  | none => .run
  | some (j, want) => bif memB j dp then match guardSlot ops j with
      | none => .bad
      | some d => match getT T d with
        | .tt => bif want then .run else .skip
        | .ff => bif want then .skip else .run
        | .bool p => bif want then .split p else .splitN p
        | .tup [] => .skip
        | _ => .bad
    else .bad

def guardB (g : GV) (A B : Prop) : Prop :=
  match g with
  | .bad => False
  | .run => A
  | .skip => B
  | .split p => Branch p A B
  | .splitN p => Branch p B A

def GuardIs (ops : List Oper) (o : Oper) (T : Tm) (b : Bool) : Prop :=
  match o.guard with
  | none => b = true
  | some (j, want) => ∃ d, guardSlot ops j = some d ∧ match getT T d with
    | .tt => b = want
    | .ff => b = !want
    | .bool p => (p ↔ b = want)
    | .tup [] => b = false
    | _ => False

theorem guardB_spec {ops : List Oper} {dp : List Nat} {o : Oper} {T : Tm} {A B : Prop} (h : guardB (guardV ops dp o T) A B) : ∃ b, GuardIs ops o T b ∧ (b = true → A) ∧ (b = false → B) := by
  unfold guardV at h
  unfold GuardIs
  split at h
  · exact ⟨true, rfl, fun _ => h, (fun h => by cases h)⟩
  · rename_i j want hg
    cases hm : memB j dp with
    | false => rw [hm, cond_false] at h; exact h.elim
    | true =>
      rw [hm, cond_true] at h
      split at h
      · exact h.elim
      · rename_i d hd
        split at h
        · rename_i hT
          cases want with
          | true => exact ⟨true, ⟨d, hd, by rw [hT]⟩, fun _ => h, (fun h => by cases h)⟩
          | false => exact ⟨false, ⟨d, hd, by rw [hT]⟩, (fun h => by cases h), fun _ => h⟩
        · rename_i hT
          cases want with
          | true => exact ⟨false, ⟨d, hd, by rw [hT]; rfl⟩, (fun h => by cases h), fun _ => h⟩
          | false => exact ⟨true, ⟨d, hd, by rw [hT]; rfl⟩, fun _ => h, (fun h => by cases h)⟩
        · rename_i p hT
          rcases Classical.em p with hp | hp
          · cases want with
            | true => exact ⟨true, ⟨d, hd, by rw [hT]; simp [hp]⟩, fun _ => Branch.yes h hp, (fun h => by cases h)⟩
            | false => exact ⟨false, ⟨d, hd, by rw [hT]; simp [hp]⟩, (fun h => by cases h), fun _ => Branch.yes h hp⟩
          · cases want with
            | true => exact ⟨false, ⟨d, hd, by rw [hT]; simp [hp]⟩, (fun h => by cases h), fun _ => Branch.no h hp⟩
            | false => exact ⟨true, ⟨d, hd, by rw [hT]; simp [hp]⟩, fun _ => Branch.no h hp, (fun h => by cases h)⟩
        · rename_i hT
          exact ⟨false, ⟨d, hd, by rw [hT]⟩, (fun h => by cases h), fun _ => h⟩
        · exact h.elim

theorem wanted_of {N : Nat} {ρ : Env} {T : Tm} {M : Mm} {a : Act} {w : World} (hc : Conc N ρ T M a w) {ops : List Oper} (hall : dstOK N ops = true) {o : Oper} {b : Bool} (h : GuardIs ops o T b) : Region.wanted o (yielded ops.toArray a.tmps) = b := by
  unfold GuardIs at h
  split at h
  · rename_i hg; subst h; simp [Region.wanted, hg]
  · rename_i j want hg
    obtain ⟨d, hd, h⟩ := h
    have hdN : d < N := by
      unfold guardSlot at hd
      split at hd
      · rename_i o' ho'
        exact dstOK_get hall (List.mem_of_getElem? ho') d hd
      · cases hd
    have hw : ∀ {b : Bool}, a.tmps.getD d undef = .bool b → Region.wanted o (yielded ops.toArray a.tmps) = (b == want) := by
      intro b hb
      have := yielded_of hc hd hdN hb
      simp only [Region.wanted, hg, this]
      cases b <;> cases want <;> rfl
    have hT := hc.tm d
    split at h
    · rename_i he; rw [he] at hT; rw [h]
      rw [hw (b := true) hT]; cases want <;> rfl
    · rename_i he; rw [he] at hT; rw [h]
      rw [hw (b := false) hT]; cases want <;> rfl
    · rename_i p he; rw [he] at hT
      obtain ⟨b', hb, hbp⟩ := hT
      rw [hw hb]
      have e := hbp.trans h
      clear hw h hbp hb he hg
      revert e
      cases b' <;> cases b <;> cases want <;> simp
    · rename_i he; rw [he] at hT; rw [h]
      exact wanted_und hg hd (hT.elim fun xs hx => by have h1 := hx.1; have h2 := hx.2; simp only [RelL] at h1; subst h1; exact h2)
    · exact h.elim

/-- 0: looks alone; 1: makes memory; 2: does more. -/
def kindO (ty : Nat → Ty) (o : Oper) : Nat :=
  match o.op with
  | .alloc _ => 1
  | .box _ _ => 1
  | .makeSlice _ _ _ => 1
  | .buildSlice _ _ _ => 1
  | .store _ _ _ => 2
  | .convert _ t _ => match (ty t).k with
    | .slice _ => 2
    | _ => 0
  | .call c => match c.callee with
    | .builtin b => match isCopy b with
      | true => 2
      | false => match isAppend b with
        | true => 2
        | false => 0
    | _ => 2
  | _ => 0

def newE (Γ : Cfg) (o : Oper) (T : Tm) : Option (List Prop × Nat × Ent × SV) :=
  match o.op with
  | .alloc t => match o.dst with
    | some d => match (Γ.ty t).k with
      | .bad => none
      | _ => match (Γ.ty t).zl with
        | [] => none
        | zl => some ([], d, .mem true 0 zl, .ptr d 0 none)
    | none => none
  | .box t x => match o.dst with
    | some d => match leavesOf (Γ.ty t) (ev T x) with
      | some (qs, ls) => some (qs, d, .mem true 0 ls, .ptr d 0 none)
      | none => none
    | none => none
  | .makeSlice t l c => match o.dst with
    | some d => match makeV Γ.ty T d t l c with
      | some (qs, e, v) => some (qs, d, e, v)
      | none => none
    | none => none
  | .buildSlice t len parts => bif noParts len parts.toList then match o.dst with
      | some d => match bsV Γ.ty T d t len parts.toList with
        | some (qs, e, v) => some (qs, d, e, v)
        | none => none
      | none => none
    else none
  | _ => none

theorem makeV_own {ty : Nat → Ty} {T : Tm} {d t : Nat} {l c : Operand} {ps : List Prop} {e : Ent} {v : SV} (h : makeV ty T d t l c = some (ps, e, v)) : e.isOwn = true := by
  unfold makeV at h
  split at h
  · split at h
    · cases h
    · split at h
      · split at h
        · rcases bif_some h with ⟨_, h⟩ | ⟨_, h⟩
          · simp only [Option.some.injEq, Prod.mk.injEq] at h; obtain ⟨_, rfl, _⟩ := h; rfl
          · split at h
            · simp only [Option.some.injEq, Prod.mk.injEq] at h; obtain ⟨_, rfl, _⟩ := h; rfl
            · cases h
        · cases h
      · cases h
  · cases h

theorem bsV_own {ty : Nat → Ty} {T : Tm} {d t len : Nat} {parts : List (Nat × Operand)} {ps : List Prop} {e : Ent} {v : SV} (h : bsV ty T d t len parts = some (ps, e, v)) : e.isOwn = true := by
  unfold bsV at h
  split at h
  · split at h
    · cases h
    · replace h := (bif_none h).2
      split at h
      · simp only [Option.some.injEq, Prod.mk.injEq] at h; obtain ⟨_, rfl, _⟩ := h; rfl
      · cases h
  · cases h

def freshB (MS : Mm) : Mm → Bool
  | [] => true
  | (k, e) :: r => (match getM MS k with
    | none => true
    | some _ => false) && (match e with
    | .dead => true
    | .mem own sp _ => own || sp != 0) && freshB MS r

@[irreducible] def Grow (M M' MS : Mm) (X : Mm → Prop) : Prop := ∃ E, M' = E ++ M ∧ freshB MS E = true ∧ X E
/-- What a call has made new: E. -/
theorem Grow.intro {M M' MS : Mm} {X : Mm → Prop} (E : Mm) (h1 : M' = E ++ M) (h2 : freshB MS E = true) (h3 : X E) : Grow M M' MS X := by unfold Grow; exact ⟨E, h1, h2, h3⟩

def barB (dp : List Nat) : List Rec → Bool
  | [] => true
  | r :: q => memB r.ix dp && barB dp q

/-- An operation of such a region is run. -/
def stepD (Γ : Cfg) (ops : List Oper) (dep : List (List Nat)) (T0 : Tm) (M0 : Mm) (rs : List Rec) (i : Nat) (o : Oper) (next : Tm → Mm → List Rec → Prop) : Prop :=
  match kindO Γ.ty o with
  | 0 => match pureOp Γ.ty (restr (recT (inB (depAt dep i)) T0 rs) (looks ops o)) (recM (inB (depAt dep i)) M0 rs) o.op with
    | some (qs, v) => withP qs (next T0 M0 (⟨i, o.dst, v, [], depAt dep i, looks ops o⟩ :: rs))
    | none => False
  | 1 => match newE Γ o (restr (recT (inB (depAt dep i)) T0 rs) (looks ops o)) with
    | some (qs, d, e, v) => match getM (recM allB M0 rs) d with
      | none => withP qs (next T0 M0 (⟨i, o.dst, v, [(d, e)], depAt dep i, looks ops o⟩ :: rs))
      | some _ => False
    | none => False
  | _ => bif barB (depAt dep i) rs then
      effOp Γ o (recT allB T0 rs) (recM allB M0 rs) [] fun qs v M' => withP qs (next (putT o.dst v (recT allB T0 rs)) M' [])
    else
      effOp Γ o (restr (recT (inB (depAt dep i)) T0 rs) (looks ops o)) (recM (inB (depAt dep i)) M0 rs) [] fun qs v M' => withP qs
        (Grow (recM (inB (depAt dep i)) M0 rs) M' (recM allB M0 rs) fun E => next T0 M0 (⟨i, o.dst, v, E, depAt dep i, looks ops o⟩ :: rs))

def drawOps (Γ : Cfg) (ops : List Oper) (dep : List (List Nat)) (T0 : Tm) (M0 : Mm) (rs : List Rec) (ord : List Nat) (K : Tm → Mm → Prop) : Prop :=
  match ord with
  | [] => K (recT allB T0 rs) (recM allB M0 rs)
  | i :: r => match ops[i]? with
    | none => False
    | some o => guardB (guardV ops (depAt dep i) o (restr (recT (inB (depAt dep i)) T0 rs) (looks ops o)))
        (stepD Γ ops dep T0 M0 rs i o fun T M q => drawOps Γ ops dep T M q r K)
        (drawOps Γ ops dep T0 M0 (⟨i, o.dst, .tup [], [], depAt dep i, looks ops o⟩ :: rs) r K)

/-! ## The plan, looked at once -/

def noneIn (d : Option Nat) (l : List Nat) : Bool :=
  match d with
  | none => true
  | some s => !memB s l
def dstNe (d e : Option Nat) : Bool :=
  match d, e with
  | some x, some y => !Nat.beq x y
  | _, _ => true

def pairB (ops : List Oper) (dep : List (List Nat)) (i j : Nat) (oi oj : Oper) : Bool :=
  (memB j (depAt dep i) || (noneIn oi.dst (looks ops oj) && noneIn oj.dst (looks ops oi))) && dstNe oi.dst oj.dst

def planOK (ty : Nat → Ty) (ops : List Oper) (dep : List (List Nat)) : List Nat → List Nat → Bool
  | _, [] => true
  | bf, i :: r => (match ops[i]? with
    | none => false
    | some o => !memB i bf && (depAt dep i).all (fun k => memB k bf) && (Nat.blt (kindO ty o) 2 || r.all fun j => memB i (depAt dep j)) &&
      bf.all fun j => match ops[j]? with
        | some oj => pairB ops dep i j o oj
        | none => false) && planOK ty ops dep (i :: bf) r

def depOK (ops : List Oper) (dep : List (List Nat)) : Bool :=
  (List.range ops.length).all fun i => match ops[i]? with
    | none => false
    | some o => (o.after.toList.all fun e => !Region.binds .any e || (Nat.blt e.on i && memB e.on (depAt dep i))) &&
      ((depAt dep i).all fun j => o.after.toList.any fun e => Region.binds .any e && (Nat.beq e.on j || memB j (depAt dep e.on))) &&
      (depAt dep i).all fun k => (depAt dep k).all fun j => memB j (depAt dep i)

def planAll (ty : Nat → Ty) (ops : List Oper) (dep : List (List Nat)) (ord : List Nat) : Bool :=
  depOK ops dep && planOK ty ops dep [] ord && (List.range ops.length).all fun j => memB j ord

@[irreducible] def Draw (Γ : Cfg) (id : Nat) (ops : List Oper) (T : Tm) (M : Mm) (K : Tm → Mm → Prop) : Prop :=
  ∃ dep ord, planAll Γ.ty ops dep ord = true ∧ drawOps Γ ops dep T M [] ord K

theorem Draw.intro {Γ : Cfg} {id : Nat} {ops : List Oper} {T : Tm} {M : Mm} {K : Tm → Mm → Prop} (dep : List (List Nat)) (ord : List Nat) (h : planAll Γ.ty ops dep ord = true) (k : drawOps Γ ops dep T M [] ord K) :
    Draw Γ id ops T M K := by unfold Draw; exact ⟨dep, ord, h, k⟩

/-! ## Soundness -/

theorem memB_false {a : Nat} {l : List Nat} (h : memB a l = false) : a ∉ l := fun hm => by rw [memB_iff.2 hm] at h; cases h

theorem noneIn_spec {d : Option Nat} {l : List Nat} (h : noneIn d l = true) : ∀ s, d = some s → s ∉ l := by
  intro s hs
  subst hs
  simp only [noneIn, Bool.not_eq_true'] at h
  exact memB_false h

theorem dstNe_spec {d e : Option Nat} (h : dstNe d e = true) : ∀ s, d = some s → e ≠ some s := by
  intro s hs he
  subst hs; subst he
  simp only [dstNe, Bool.not_eq_true'] at h
  rw [show Nat.beq s s = true from Nat.beq_refl s] at h
  cases h

theorem planOK_cons {ty : Nat → Ty} {ops : List Oper} {dep : List (List Nat)} {bf : List Nat} {i : Nat} {r : List Nat} (h : planOK ty ops dep bf (i :: r) = true) : ∃ o, ops[i]? = some o ∧ i ∉ bf ∧ (∀ k ∈ depAt dep i, k ∈ bf) ∧
    (kindO ty o < 2 ∨ ∀ j ∈ r, i ∈ depAt dep j) ∧ (∀ j ∈ bf, ∀ oj, ops[j]? = some oj → pairB ops dep i j o oj = true) ∧ planOK ty ops dep (i :: bf) r = true := by
  simp only [planOK, Bool.and_eq_true] at h
  obtain ⟨h1, h2⟩ := h
  split at h1
  · cases h1
  · rename_i o ho
    simp only [Bool.and_eq_true, Bool.or_eq_true, Bool.not_eq_true', List.all_eq_true] at h1
    obtain ⟨⟨⟨a1, a2⟩, a3⟩, a4⟩ := h1
    refine ⟨o, ho, memB_false a1, fun k hk => memB_iff.1 (a2 k hk), a3.imp u_lt_of fun h j hj => memB_iff.1 (h j hj), fun j hj oj hoj => ?_, h2⟩
    have := a4 j hj
    rw [hoj] at this
    exact this

theorem pair_of {ops : List Oper} {dep : List (List Nat)} {i j : Nat} {oi oj : Oper} (h : pairB ops dep i j oi oj = true) {v v' : SV} {n n' : Mm} :
    Pair ⟨i, oi.dst, v, n, depAt dep i, looks ops oi⟩ ⟨j, oj.dst, v', n', depAt dep j, looks ops oj⟩ := by
  simp only [pairB, Bool.and_eq_true, Bool.or_eq_true] at h
  refine ⟨fun s h1 h2 => ?_, fun s h1 h2 => ?_, dstNe_spec h.2⟩
  · rcases h.1 with h | h
    · exact Or.inl (memB_iff.1 h)
    · exact absurd h2 (noneIn_spec h.2 s h1)
  · rcases h.1 with h | h
    · exact Or.inr (memB_iff.1 h)
    · exact absurd h2 (noneIn_spec h.1 s h1)

theorem effOp_pure {Γ : Cfg} {o : Oper} {T : Tm} {M : Mm} {qs : List Prop} {v : SV} {K : List Prop → SV → Mm → Prop} (hk : kindO Γ.ty o = 0) (h : pureOp Γ.ty T M o.op = some (qs, v)) (k : K (qs ++ []) v M) :
    effOp Γ o T M [] K := by
  unfold effOp
  unfold kindO at hk
  split
  · rename_i hop; rw [hop] at hk; cases hk
  · rename_i hop; rw [hop] at hk; cases hk
  · rename_i hop; rw [hop] at hk; cases hk
  · rename_i hop; rw [hop] at hk; cases hk
  · rename_i hop; rw [hop] at hk; cases hk
  · rename_i s t x hop
    simp only [hop] at hk
    split
    · rename_i e he; rw [he] at hk; cases hk
    · rw [h]; exact k
  · rename_i c hop
    rw [hop] at hk
    split
    · rename_i hc; simp only [hc] at hk; cases hk
    · rename_i b hb
      simp only [hb] at hk
      split
      · rename_i hcp; rw [hcp] at hk; cases hk
      · rename_i hcp
        rw [hcp] at hk
        split
        · rename_i hap; rw [hap] at hk; cases hk
        · rw [h]; exact k
    · rename_i h1 h2
      simp only at hk
      first
        | cases hk
        | (split at hk
           · rename_i b hb; exact (h2 b hb).elim
           · cases hk)
  · rw [h]; exact k

theorem effOp_new {Γ : Cfg} {o : Oper} {T : Tm} {M : Mm} {qs : List Prop} {d : Nat} {e : Ent} {v : SV} {K : List Prop → SV → Mm → Prop} (h : newE Γ o T = some (qs, d, e, v)) (hm : getM M d = none)
    (k : K (qs ++ []) v ((d, e) :: M)) : effOp Γ o T M [] K ∧ e.isOwn = true := by
  unfold newE at h
  split at h
  · rename_i t hop
    split at h
    · rename_i d' hd
      split at h
      · cases h
      · rename_i hk
        split at h
        · cases h
        · rename_i zl hz
          simp only [Option.some.injEq, Prod.mk.injEq] at h; obtain ⟨rfl, rfl, rfl, rfl⟩ := h
          refine ⟨?_, rfl⟩
          unfold effOp
          simp only [hop, hd, hm]
          exact k
    · cases h
  · rename_i t x hop
    split at h
    · rename_i d' hd
      split at h
      · rename_i ps ls hl
        simp only [Option.some.injEq, Prod.mk.injEq] at h; obtain ⟨rfl, rfl, rfl, rfl⟩ := h
        refine ⟨?_, rfl⟩
        unfold effOp
        simp only [hop, hd, hm, hl]
        exact k
      · cases h
    · cases h
  · rename_i t l c hop
    split at h
    · rename_i d' hd
      split at h
      · rename_i ps e' v' hv
        simp only [Option.some.injEq, Prod.mk.injEq] at h; obtain ⟨rfl, rfl, rfl, rfl⟩ := h
        refine ⟨?_, makeV_own hv⟩
        unfold effOp
        simp only [hop, hd, hm, hv]
        exact k
      · cases h
    · cases h
  · rename_i t len parts hop
    have hn := (bif_none h).1
    replace h := (bif_none h).2
    split at h
    · rename_i d' hd
      split at h
      · rename_i ps e' v' hv
        simp only [Option.some.injEq, Prod.mk.injEq] at h; obtain ⟨rfl, rfl, rfl, rfl⟩ := h
        refine ⟨?_, bsV_own hv⟩
        unfold effOp
        simp only [hop, hd, hm, hv, hn, cond_true]
        exact k
      · cases h
    · cases h
  · cases h

theorem freshB_spec {MS : Mm} : ∀ {E : Mm}, freshB MS E = true → ∀ a e, getM E a = some e → getM MS a = none ∧ e.loose = true
  | [], _, _, _, h => by simp [getM] at h
  | (k, e0) :: r, hf, a, e, h => by
    simp only [freshB, Bool.and_eq_true] at hf
    obtain ⟨⟨h1, h2⟩, h3⟩ := hf
    by_cases hk : a = k
    · subst hk
      rw [getM_cons_self] at h
      simp only [Option.some.injEq] at h; subst h
      refine ⟨?_, ?_⟩
      · split at h1
        · assumption
        · cases h1
      · split at h2
        · rfl
        · exact h2
    · rw [getM_cons_ne hk] at h
      exact freshB_spec h3 a e h

theorem depOK_get {ops : List Oper} {dep : List (List Nat)} (h : depOK ops dep = true) {i : Nat} {o : Oper} (ho : ops[i]? = some o) :
    (∀ e ∈ o.after, Region.binds .any e = true → e.on < i ∧ e.on ∈ depAt dep i) ∧ (∀ j ∈ depAt dep i, ∃ e ∈ o.after, Region.binds .any e = true ∧ (e.on = j ∨ j ∈ depAt dep e.on)) ∧
    ∀ k ∈ depAt dep i, ∀ j ∈ depAt dep k, j ∈ depAt dep i := by
  have hlt := (List.getElem?_eq_some_iff.1 ho).1
  have := List.all_eq_true.1 h i (List.mem_range.2 hlt)
  rw [ho] at this
  simp only [Bool.and_eq_true, List.all_eq_true, Bool.or_eq_true, Bool.not_eq_true', List.any_eq_true] at this
  obtain ⟨⟨h1, h2⟩, h3⟩ := this
  refine ⟨fun e he hb => ?_, fun j hj => ?_, fun k hk j hj => memB_iff.1 (h3 k hk j hj)⟩
  · rcases h1 e (by simpa using he) with h | h
    · rw [hb] at h; cases h
    · exact ⟨u_lt_of h.1, memB_iff.1 h.2⟩
  · obtain ⟨e, he, hb, hj⟩ := h2 j hj
    exact ⟨e, by simpa using he, hb, hj.imp beq_eq' memB_iff.1⟩

def Facts (Γ : Cfg) (ops : List Oper) (r : Rec) (T : Tm) (M : Mm) : Prop :=
  ∃ o b, ops[r.ix]? = some o ∧ GuardIs ops o T b ∧ o.dst = r.dst ∧ (b = true → effOp Γ o T M [] fun qs v M' => All qs ∧ v = r.v ∧ M' = r.new ++ M) ∧ (b = false → r.v = .tup [] ∧ r.new = [])

/-- Where a region stands, and what is still to be shown of it. -/
structure St (Γ : Cfg) (N : Nat) (ops : List Oper) (dep : List (List Nat)) (K : Tm → Mm → Prop) (bf : List Nat) (T0 : Tm) (M0 : Mm) (rs : List Rec) (ord : List Nat) (p : Nat → Bool) (ρ : Env) (a : Act) (w : World) : Prop where
  I : Inv N (depAt dep) bf T0 M0 rs p ρ a w
  hops : ∀ r ∈ rs, ∃ o, ops[r.ix]? = some o ∧ r.dst = o.dst ∧ r.rd = looks ops o
  facts : ∀ r ∈ rs, p r.ix = false → Facts Γ ops r (restr (recT (inB r.dep) T0 rs) r.rd) (recM (inB r.dep) M0 rs)
  F : drawOps Γ ops dep T0 M0 rs ord K
  plan : planOK Γ.ty ops dep bf ord = true
  cover : ∀ j, j < ops.length → j ∈ bf ∨ j ∈ ord

section
variable {Γ : Cfg} {N : Nat} {ops : List Oper} {dep : List (List Nat)} {K : Tm → Mm → Prop} {bf : List Nat} {T0 : Tm} {M0 : Mm} {rs : List Rec} {ord : List Nat} {p : Nat → Bool} {ρ : Env} {a : Act} {w : World}

theorem St.pairs (S : St Γ N ops dep K bf T0 M0 rs ord p ρ a w) {i : Nat} {o : Oper} {v : SV} {n : Mm} (h : ∀ j ∈ bf, ∀ oj, ops[j]? = some oj → pairB ops dep i j o oj = true) :
    ∀ r ∈ rs, Pair ⟨i, o.dst, v, n, depAt dep i, looks ops o⟩ r := by
  intro r hr
  obtain ⟨oj, h1, h2, h3⟩ := S.hops r hr
  have := pair_of (v := v) (n := n) (v' := r.v) (n' := r.new) (h r.ix (S.I.bfs r hr) oj h1)
  rw [← h2, ← h3, ← S.I.deps r hr] at this
  exact this

/-- An operation that may be run at any time is foreseen. -/
theorem St.push (hd : depOK ops dep = true) (hdst : dstOK N ops = true) {i : Nat} {r : List Nat} (S : St Γ N ops dep K bf T0 M0 rs (i :: r) p ρ a w) {o : Oper} (ho : ops[i]? = some o) {v : SV} {n : Mm} {b : Bool} (hg : GuardIs ops o (restr (recT (inB (depAt dep i)) T0 rs) (looks ops o)) b)
    (hfr : ∀ b e, getM n b = some e → getM (recM allB M0 rs) b = none ∧ e.loose = true)
    (hf : b = true → effOp Γ o (restr (recT (inB (depAt dep i)) T0 rs) (looks ops o)) (recM (inB (depAt dep i)) M0 rs) [] fun qs v' M' => All qs ∧ v' = v ∧ M' = n ++ recM (inB (depAt dep i)) M0 rs)
    (hs : b = false → v = .tup [] ∧ n = [])
    (hF : drawOps Γ ops dep T0 M0 (⟨i, o.dst, v, n, depAt dep i, looks ops o⟩ :: rs) r K) :
    St Γ N ops dep K (i :: bf) T0 M0 (⟨i, o.dst, v, n, depAt dep i, looks ops o⟩ :: rs) r p ρ a w ∧ p i = false := by
  obtain ⟨o', ho', h1, h2, _, h4, h5⟩ := planOK_cons S.plan
  have : o' = o := Option.some.inj (ho'.symm.trans ho)
  subst this
  have hp : p i = false := by
    cases h : p i with
    | false => rfl
    | true => exact absurd (S.I.done _ h) h1
  refine ⟨⟨S.I.push h1 rfl (depOK_get hd ho).2.2 h2 (fun d h => dstOK_get hdst (List.mem_of_getElem? ho) d h) (S.pairs h4) hfr, ?_, ?_, hF, h5, ?_⟩, hp⟩
  · intro x hx
    rcases List.mem_cons.1 hx with hx' | hx'
    · subst hx'; exact ⟨o', ho, rfl, rfl⟩
    · exact S.hops x hx'
  · intro x hx hpx
    have hno : inB x.dep i = false := by
      cases h : inB x.dep i with
      | false => rfl
      | true =>
        have hm := memB_iff.1 h
        rcases List.mem_cons.1 hx with hx' | hx'
        · subst hx'; exact absurd (h2 _ hm) h1
        · exact absurd (S.I.below x hx' _ hm) h1
    have e1 : recT (inB x.dep) T0 (⟨i, o'.dst, v, n, depAt dep i, looks ops o'⟩ :: rs) = recT (inB x.dep) T0 rs := by simp only [recT, hno, cond_false]
    have e2 : recM (inB x.dep) M0 (⟨i, o'.dst, v, n, depAt dep i, looks ops o'⟩ :: rs) = recM (inB x.dep) M0 rs := by simp only [recM, hno, cond_false]
    rw [e1, e2]
    rcases List.mem_cons.1 hx with hx' | hx'
    · subst hx'; exact ⟨o', b, ho, hg, rfl, hf, hs⟩
    · exact S.facts x hx' hpx
  · intro j hj
    rcases S.cover j hj with h | h
    · exact Or.inl (List.mem_cons_of_mem _ h)
    · rcases List.mem_cons.1 h with h | h
      · exact Or.inl (by simp [h])
      · exact Or.inr h

/-- All that may be foreseen is foreseen. -/
theorem St.advance (hd : depOK ops dep = true) (hdst : dstOK N ops = true) : ∀ (ord : List Nat) {bf : List Nat} {rs : List Rec}, St Γ N ops dep K bf T0 M0 rs ord p ρ a w →
    ∃ bf' rs' ord', St Γ N ops dep K bf' T0 M0 rs' ord' p ρ a w ∧ recM p M0 rs' = recM p M0 rs ∧ (ord' = [] ∨ ∃ i r o, ord' = i :: r ∧ ops[i]? = some o ∧ 2 ≤ kindO Γ.ty o ∧ GuardIs ops o (restr (recT (inB (depAt dep i)) T0 rs') (looks ops o)) true ∧ stepD Γ ops dep T0 M0 rs' i o fun T M q => drawOps Γ ops dep T M q r K)
  | [], bf, rs, S => ⟨bf, rs, [], S, rfl, Or.inl rfl⟩
  | i :: r, bf, rs, S => by
    have F := S.F
    unfold drawOps at F
    split at F
    · exact F.elim
    rename_i o ho
    obtain ⟨b, hg, ht, hf⟩ := guardB_spec F
    clear F
    have step : ∀ {v n}, (St Γ N ops dep K (i :: bf) T0 M0 (⟨i, o.dst, v, n, depAt dep i, looks ops o⟩ :: rs) r p ρ a w ∧ p i = false) →
        ∃ bf' rs' ord', St Γ N ops dep K bf' T0 M0 rs' ord' p ρ a w ∧ recM p M0 rs' = recM p M0 rs ∧ (ord' = [] ∨ ∃ i r o, ord' = i :: r ∧ ops[i]? = some o ∧ 2 ≤ kindO Γ.ty o ∧ GuardIs ops o (restr (recT (inB (depAt dep i)) T0 rs') (looks ops o)) true ∧ stepD Γ ops dep T0 M0 rs' i o fun T M q => drawOps Γ ops dep T M q r K) := by
      rintro v n ⟨S', hp⟩
      obtain ⟨bf', rs', ord', h1, h2, h3⟩ := St.advance hd hdst r S'
      refine ⟨bf', rs', ord', h1, ?_, h3⟩
      rw [h2]
      simp only [recM, hp, cond_false]
    cases b with
    | false => exact step (S.push hd hdst ho (n := []) hg (fun b e h => by simp [getM] at h) (fun h => by cases h) (fun _ => ⟨rfl, rfl⟩) (hf rfl))
    | true =>
    have F := ht rfl
    have F0 := F
    unfold stepD at F
    split at F
    · rename_i hk
      split at F
      · rename_i qs v hv
        refine step (S.push hd hdst ho (n := []) hg (fun b e h => by simp [getM] at h) (fun _ => effOp_pure hk hv ⟨?_, rfl, rfl⟩) (fun h => by cases h) (withP.rest F))
        rw [List.append_nil]; exact withP.all F
      · exact F.elim
    · rename_i hk
      split at F
      · rename_i qs d e v he
        split at F
        · rename_i hm
          have hm2 : getM (recM (inB (depAt dep i)) M0 rs) d = none := by
            cases h : getM (recM (inB (depAt dep i)) M0 rs) d with
            | none => rfl
            | some e' => rw [recM_mono (q := allB) S.I.wf (fun _ _ _ => rfl) h] at hm; cases hm
          have hnew := effOp_new (K := fun qs v' M' => All qs ∧ v' = v ∧ M' = [(d, e)] ++ recM (inB (depAt dep i)) M0 rs) he hm2 ⟨by rw [List.append_nil]; exact withP.all F, rfl, rfl⟩
          refine step (S.push hd hdst ho hg (fun b e' h => ?_) (fun _ => hnew.1) (fun h => by cases h) (withP.rest F))
          by_cases hb : b = d
          · subst hb
            rw [getM_cons_self] at h
            simp only [Option.some.injEq] at h; subst h
            exact ⟨hm, Ent.loose_own hnew.2⟩
          · rw [getM_cons_ne hb] at h; simp [getM] at h
        · exact F.elim
      · exact F.elim
    · rename_i h0 h1
      refine ⟨bf, rs, i :: r, S, rfl, Or.inr ⟨i, r, o, rfl, ho, ?_, hg, F0⟩⟩
      rcases Nat.lt_or_ge (kindO Γ.ty o) 2 with h | h
      · have h2 : kindO Γ.ty o = 0 ∨ kindO Γ.ty o = 1 := by omega
        exact h2.elim (fun h => (h0 h).elim) fun h => (h1 h).elim
      · exact h

/-- An operation is run that waits for no more, and leaves the rest alone. -/
theorem Inv.run (I : Inv N (depAt dep) bf T0 M0 rs p ρ a w) {o : Oper} {dp : List Nat} (hdst : ∀ d, o.dst = some d → d < N) (hd : ∀ k ∈ dp, p k = true) (ht : ∀ k ∈ dp, ∀ j ∈ depAt dep k, j ∈ dp)
    (hrd : ∀ r ∈ rs, ∀ s, r.dst = some s → s ∈ looks ops o → p r.ix = true → r.ix ∈ dp) {G : SV → Mm → Prop} {C : List Prop → SV → Mm → Prop}
    (hC : ∀ qs v M', C qs v M' → All qs ∧ ∃ E, M' = E ++ recM (inB dp) M0 rs ∧ (∀ b e, getM E b = some e → getM (recM p M0 rs) b = none ∧ e.loose = true) ∧ G v E)
    (hf : effOp Γ o (restr (recT (inB dp) T0 rs) (looks ops o)) (recM (inB dp) M0 rs) [] C) {Q : Exit → Act → World → Prop} :
    o.wp Γ.P a w (fun a' w' => ∃ v E x ρ', G v E ∧ a'.tmps = (a.put o.dst x).tmps ∧ a'.defers = [] ∧ ρ.le ρ' ∧
      (∀ d, o.dst = some d → RelT ρ' v x ∧ ToldT (E ++ recM (inB dp) M0 rs) v) ∧ (∀ b e, getM E b = some e → ToldE (E ++ recM (inB dp) M0 rs) e) ∧
      ConcM ρ' (E ++ recM p M0 rs) w' ∧ Step ρ (recM p M0 rs) ρ' (E ++ recM p M0 rs) w w') Q := by
  obtain ⟨hs, hc⟩ := I.sees (rd := looks ops o) hd ht hrd
  refine Oper.wp_mono ?_ (Oper.wp_put (effOp_sound hc hdst (fun qs v M' h => (hC qs v M' h).1) hf))
  rintro a' w' ⟨⟨x, hx⟩, ρ1, T', M', ⟨qs, v, hk, rfl⟩, hle, hc', hst⟩
  obtain ⟨_, E, rfl, hfr, hG⟩ := hC qs v M' hk
  obtain ⟨ρ2, l1, l2, h1, h2⟩ := I.mem.frame hs hle hc'.toConcM hst hfr
  refine ⟨v, E, x, ρ2, hG, hx, hc'.defers, l1, fun d hdd => ?_, fun b e h => hc'.toConcM.told (getM_append_new h), h1, h2⟩
  have hr := hc'.tm d
  rw [hdd, putT, getT_cons_self, hx, hdd] at hr
  have hxx : (a.put (some d) x).tmps.getD d undef = x := by
    have hlt := hdst d hdd
    unfold Act.put
    simp only [Array.getD_eq_getD_getElem?]
    rw [Array.getElem?_setIfInBounds_self_of_lt (by rw [I.sz]; exact hlt)]
    rfl
  rw [hxx] at hr
  exact ⟨hr.le l2, hc'.toConcM.toldT hr⟩
end

end Go.Sx

namespace Go.Sx
open Go

theorem toldT_und (M : Mm) : ToldT M (.tup []) := ⟨⟨fun _ => False, fun _ => (0, 0), fun _ _ _ => False⟩, undef, fun _ h => h.elim, ⟨[], rfl, rfl⟩⟩

def pB (l : Array Bool) : Nat → Bool := fun j => l.getD j false

theorem pB_set {l : Array Bool} {i : Nat} (h : i < l.size) : pB (l.setIfInBounds i true) = plus (pB l) i := by
  funext j
  by_cases hj : j = i
  · subst hj
    rw [plus_self]
    simp only [pB, Array.getD_eq_getD_getElem?]
    rw [Array.getElem?_setIfInBounds_self_of_lt h]
    rfl
  · rw [plus_ne hj]
    simp only [pB]
    exact getD_set_ne false (Ne.symm hj)

theorem pB_true {l : Array Bool} {i : Nat} (h : i < l.size) : l.getD i true = false ↔ pB l i = false := by
  simp only [pB, Array.getD_eq_getD_getElem?, Array.getElem?_eq_getElem h, Option.getD_some]

theorem filter_le {α : Type} {p q : α → Bool} : ∀ {l : List α}, (∀ x ∈ l, q x = true → p x = true) → (l.filter q).length ≤ (l.filter p).length
  | [], _ => by simp
  | y :: t, hpq => by
    have iht := filter_le (p := p) (q := q) (l := t) fun z hz => hpq z (List.mem_cons_of_mem _ hz)
    have hy := hpq y (by simp)
    rw [List.filter_cons, List.filter_cons]
    cases h : q y with
    | true => rw [hy h]; simpa using iht
    | false => cases p y <;> simp <;> omega

theorem filter_lt {α : Type} {p q : α → Bool} {i : α} : ∀ {l : List α}, (∀ x ∈ l, q x = true → p x = true) → i ∈ l → p i = true → q i = false → (l.filter q).length < (l.filter p).length
  | [], _, h, _, _ => by simp at h
  | x :: r, hpq, hi, hp, hq => by
    have le : (r.filter q).length ≤ (r.filter p).length := filter_le fun y hy => hpq y (List.mem_cons_of_mem _ hy)
    rw [List.filter_cons, List.filter_cons]
    rcases List.mem_cons.1 hi with h | h
    · subst h; rw [hp, hq]; simp; omega
    · have ih := filter_lt (fun y hy => hpq y (List.mem_cons_of_mem _ hy)) h hp hq
      have hx := hpq x (by simp)
      cases h : q x with
      | true => rw [hx h]; simpa using ih
      | false => cases p x <;> simp <;> omega

def left (n : Nat) (p : Nat → Bool) : Nat := ((List.range n).filter fun j => !p j).length

theorem left_plus {n i : Nat} {p : Nat → Bool} (hi : i < n) (hp : p i = false) : left n (plus p i) < left n p := by
  refine filter_lt (i := i) (fun x _ h => ?_) (List.mem_range.2 hi) (by simp [hp]) (by simp [plus_self])
  cases hx : p x with
  | false => rfl
  | true => rw [plus_old hx] at h; exact h

theorem left_zero {n : Nat} {p : Nat → Bool} (h : left n p ≤ 0) : ∀ j, j < n → p j = true := by
  intro j hj
  cases hp : p j with
  | true => rfl
  | false =>
    have : j ∈ (List.range n).filter fun j => !p j := List.mem_filter.2 ⟨List.mem_range.2 hj, by simp [hp]⟩
    have := List.length_pos_of_mem this
    unfold left at h
    omega

theorem recM_fresh {M0 : Mm} {p : Nat → Bool} : ∀ {rs : List Rec} (_ : wfM M0 rs) {r : Rec} (_ : r ∈ rs) (_ : p r.ix = false) {b : Nat} {e : Ent}, getM r.new b = some e → getM (recM p M0 rs) b = none ∧ e.loose = true
  | [], _, _, h, _, _, _, _ => by simp at h
  | r0 :: t, hw, r, hr, hp, b, e, h => by
    have notail : ∀ {x : Option Ent}, getM (recM allB M0 t) b = none → x = getM (recM p M0 t) b → x = none := by
      intro x h1 h2
      subst h2
      cases hy : getM (recM p M0 t) b with
      | none => rfl
      | some e' => rw [recM_mono (q := allB) hw.2 (fun _ _ _ => rfl) hy] at h1; cases h1
    simp only [recM]
    rcases List.mem_cons.1 hr with h' | h'
    · subst h'
      rw [hp, cond_false]
      exact ⟨notail (hw.1 b e h).1 rfl, (hw.1 b e h).2⟩
    · have ih := recM_fresh hw.2 h' hp h
      refine ⟨?_, ih.2⟩
      cases hp0 : p r0.ix with
      | false => rw [cond_false]; exact ih.1
      | true =>
        rw [cond_true, getM_append_old]; · exact ih.1
        cases hx : getM r0.new b with
        | none => rfl
        | some e' =>
          have h1 := (hw.1 b e' hx).1
          rw [recM_rec (p := allB) hw.2 h' rfl h] at h1; cases h1

theorem barB_spec {dp : List Nat} : ∀ {rs : List Rec}, barB dp rs = true → ∀ r ∈ rs, r.ix ∈ dp
  | [], _, _, h => by simp at h
  | r0 :: t, hb, r, hr => by
    simp only [barB, Bool.and_eq_true] at hb
    rcases List.mem_cons.1 hr with h | h
    · rw [h]; exact memB_iff.1 hb.1
    · exact barB_spec hb.2 r h

section
variable {Γ : Cfg} {N : Nat} {ops : List Oper} {dep : List (List Nat)} {K : Tm → Mm → Prop}

theorem St.finish {listed : Array Bool} {bf : List Nat} {T0 : Tm} {M0 : Mm} {rs : List Rec} {ord : List Nat} {ρ : Env} {a : Act} {w : World} (S : St Γ N ops dep K bf T0 M0 rs ord (pB listed) ρ a w)
    (hall : ∀ j, j < ops.length → pB listed j = true) {ρ0 : Env} {M00 : Mm} {w0 : World} (hle : ρ0.le ρ) (hst : Step ρ0 M00 ρ (recM (pB listed) M0 rs) w0 w) : After N ρ0 M00 w0 K a w := by
  have hrs : ∀ r ∈ rs, pB listed r.ix = true := fun r hr => by
    obtain ⟨o, ho, _⟩ := S.hops r hr
    exact hall _ (List.getElem?_eq_some_iff.1 ho).1
  cases ord with
  | cons i r =>
    obtain ⟨o, ho, h1, _⟩ := planOK_cons S.plan
    exact absurd (S.I.done i (hall i (List.getElem?_eq_some_iff.1 ho).1)) h1
  | nil =>
    have hM : recM (pB listed) M0 rs = recM allB M0 rs := recM_congr fun r hr => by rw [hrs r hr]; rfl
    rw [hM] at hst
    exact ⟨ρ, _, _, S.F, hle, S.I.out hrs, hst⟩

theorem any_sound (hd : depOK ops dep = true) (hdst : dstOK N ops = true) {Q : Exit → Act → World → Prop} {ρ0 : Env} {M00 : Mm} {w0 : World} (hQ : ∀ a' w', After N ρ0 M00 w0 K a' w' → Q .normal a' w') :
    ∀ (fuel : Nat) {listed : Array Bool} {bf : List Nat} {T0 : Tm} {M0 : Mm} {rs : List Rec} {ord : List Nat} {ρ : Env} {a : Act} {w : World}, listed.size = ops.length →
      St Γ N ops dep K bf T0 M0 rs ord (pB listed) ρ a w → left ops.length (pB listed) ≤ fuel → ρ0.le ρ → Step ρ0 M00 ρ (recM (pB listed) M0 rs) w0 w → wpAny Γ.P .any ops.toArray Q fuel listed a w
  | 0, listed, bf, T0, M0, rs, ord, ρ, a, w, hsz, S, hl, hle, hst => by
    have hall := left_zero hl
    refine ⟨?_, hQ _ _ (S.finish hall hle hst)⟩
    refine List.eq_nil_iff_forall_not_mem.2 fun i hi => ?_
    obtain ⟨h1, o, ho, _⟩ := mem_ready.1 hi
    have hlt : i < ops.length := by
      have := (Array.getElem?_eq_some_iff.1 ho).1
      simpa using this
    rw [pB_true (by omega)] at h1
    rw [hall i hlt] at h1; cases h1
  | fuel + 1, listed, bf, T0, M0, rs, ord, ρ, a, w, hsz, S, hl, hle, hst => by
    have ready : ∀ {i}, i ∈ Region.ready .any ops.toArray listed → ∃ o, ops[i]? = some o ∧ i < ops.length ∧ pB listed i = false ∧ ∀ e ∈ o.after, Region.binds .any e = true → pB listed e.on = true := by
      intro i hi
      obtain ⟨h1, o, ho, h2⟩ := mem_ready.1 hi
      have ho' : ops[i]? = some o := by simpa using ho
      have hlt := (List.getElem?_eq_some_iff.1 ho').1
      exact ⟨o, ho', hlt, (pB_true (by omega)).1 h1, h2⟩
    refine ⟨fun hnil => hQ _ _ (S.finish (fun j => ?_) hle hst), fun i hi => ?_⟩
    · induction j using Nat.strongRecOn with
      | _ j ih =>
        intro hj
        cases hp : pB listed j with
        | true => rfl
        | false =>
          have hr : j ∈ Region.ready .any ops.toArray listed := by
            refine mem_ready.2 ⟨(pB_true (by omega)).2 hp, ops[j], by simp [hj], fun e he hb => ?_⟩
            have := (depOK_get hd (List.getElem?_eq_getElem hj)).1 e he hb
            exact ih e.on this.1 (by omega)
          rw [hnil] at hr; cases hr
    · obtain ⟨o, ho, hlt, hpi, haft⟩ := ready hi
      obtain ⟨bf', rs', ord', S', hM, hord⟩ := S.advance hd hdst ord
      rw [← hM] at hst
      clear hM S
      have hdo := depOK_get hd ho
      have hdep : ∀ k ∈ depAt dep i, pB listed k = true := fun k hk => by
        obtain ⟨e, he, hb, h⟩ := hdo.2.1 k hk
        rcases h with h | h
        · rw [← h]; exact haft e he hb
        · exact S'.I.clos _ (haft e he hb) k h
      have hno : ∀ {r : Rec}, r ∈ rs' → pB listed r.ix = true → i ∉ r.dep := fun {r} hr hp h => by
        rw [S'.I.deps r hr] at h
        have := S'.I.clos _ hp i h
        rw [hpi] at this; cases this
      have hds : ∀ d, o.dst = some d → d < N := fun d h => dstOK_get hdst (List.mem_of_getElem? ho) d h
      have hfuel : left ops.length (pB (listed.setIfInBounds i true)) ≤ fuel := by
        rw [pB_set (by omega)]
        have := left_plus hlt hpi
        omega
      have hop : ∀ {X : Act → World → Prop}, Region.wanted o (yielded ops.toArray a.tmps) = true → o.wp Γ.P a w X Q → wpOp Γ.P ops.toArray Q i X a w := by
        intro X hg h
        unfold wpOp
        rw [show ops.toArray[i]? = some o by simpa using ho]
        simp only
        rw [if_pos hg]
        exact Or.inl h
      have hskip : ∀ {X : Act → World → Prop}, Region.wanted o (yielded ops.toArray a.tmps) = false → X (a.put o.dst undef) w → wpOp Γ.P ops.toArray Q i X a w := by
        intro X hg h
        unfold wpOp
        rw [show ops.toArray[i]? = some o by simpa using ho]
        simp only
        rw [if_neg (by rw [hg]; simp)]
        exact h
      by_cases hbf : i ∈ bf'
      · -- it was foreseen
        rcases S'.I.base i hbf with h | ⟨r, hr, hri⟩
        · rw [hpi] at h; cases h
        subst hri
        obtain ⟨o', bg, ho', hg, hdd, heff, hskp⟩ := S'.facts r hr hpi
        have : o' = o := Option.some.inj (ho'.symm.trans ho)
        subst this
        obtain ⟨o2, ho2, _, hrd⟩ := S'.hops r hr
        have : o2 = o' := Option.some.inj (ho2.symm.trans ho)
        subst this
        have hdp := S'.I.deps r hr
        rw [hrd] at heff hg
        have hdq : ∀ k ∈ r.dep, pB listed k = true := fun k hk => hdep k (by rw [← hdp]; exact hk)
        have hread : ∀ r' ∈ rs', ∀ s, r'.dst = some s → s ∈ looks ops o2 → pB listed r'.ix = true → r'.ix ∈ r.dep := by
          intro r' hr' s h1 h2 h3
          by_cases hne : r'.ix = r.ix
          · rw [hne, hpi] at h3; cases h3
          · rcases (S'.I.pairs r' hr' r hr hne).2.1 s h1 (by rw [hrd]; exact h2) with h | h
            · exact h
            · exact absurd h (hno hr' h3)
        have hwant := wanted_of (S'.I.sees (rd := looks ops o2) hdq (S'.I.trans r hr) hread).2 hdst hg
        have e := pB_set (l := listed) (i := r.ix) (by omega)
        have fin : ∀ {x : Value} {ρ' : Env} {a' : Act} {w' : World}, a'.tmps = (a.put o2.dst x).tmps → a'.defers = [] → ρ.le ρ' →
            (∀ d, o2.dst = some d → RelT ρ' r.v x ∧ ToldT (r.new ++ recM (inB r.dep) M0 rs') r.v) → (∀ b e, getM r.new b = some e → ToldE (r.new ++ recM (inB r.dep) M0 rs') e) →
            ConcM ρ' (r.new ++ recM (pB listed) M0 rs') w' → Step ρ (recM (pB listed) M0 rs') ρ' (r.new ++ recM (pB listed) M0 rs') w w' → wpAny Γ.P .any ops.toArray Q fuel (listed.setIfInBounds r.ix true) a' w' := by
          intro x ρ' a' w' h1 h2 h3 h4 h5 h6 h7
          rw [hdd] at h1 h4
          have I' := S'.I.mark hr hpi hdq h1 h2 h3 h4 h5 h6
          refine any_sound hd hdst hQ fuel (by simpa using hsz) (rs := rs') (bf := bf') (ord := ord') (T0 := T0) (M0 := M0) (ρ := ρ') ⟨by rw [e]; exact I', S'.hops, fun r' hr' hp' => ?_, S'.F, S'.plan, S'.cover⟩ hfuel (Env.le_trans hle h3) ?_
          · rw [e] at hp'
            refine S'.facts r' hr' ?_
            cases h : pB listed r'.ix with
            | false => rfl
            | true => rw [plus_old h] at hp'; cases hp'
          · rw [e]
            exact hst.trans (h7.congr fun b => (recM_plus S'.I.wf S'.I.uniq hr hpi b).symm)
        cases bg with
        | true =>
          refine hop hwant (Oper.wp_mono ?_ (S'.I.run (dp := r.dep) (G := fun v E => v = r.v ∧ E = r.new) hds hdq (S'.I.trans r hr) hread
            (fun qs v M' ⟨h1, h2, h3⟩ => ⟨h1, r.new, h3, fun b e h => recM_fresh S'.I.wf hr hpi h, h2, rfl⟩) (heff rfl)))
          rintro a' w' ⟨v, E, x, ρ', ⟨rfl, rfl⟩, h1, h2, h3, h4, h5, h6, h7⟩
          exact fin h1 h2 h3 h4 h5 h6 h7
        | false =>
          obtain ⟨hv, hn⟩ := hskp rfl
          refine hskip hwant (fin (x := undef) (ρ' := ρ) rfl ?_ (Env.le_refl _) (fun d _ => ?_) (fun b e h => ?_) ?_ ?_)
          · cases hd : o2.dst <;> exact S'.I.defers
          · rw [hv]; exact ⟨⟨[], rfl, rfl⟩, toldT_und _⟩
          · rw [hn] at h; simp [getM] at h
          · rw [hn]; exact S'.I.mem
          · rw [hn]; exact Step.refl _ _ _
      · -- it is the next
        rcases hord with h | ⟨i0, r0, o0, h, ho0, hk0, hg0, F⟩
        · subst h
          exact absurd ((S'.cover i hlt).resolve_left hbf) (by simp)
        subst h
        obtain ⟨o1, ho1, n1, n2, n3, n4, n5⟩ := planOK_cons S'.plan
        have e1 : o1 = o0 := Option.some.inj (ho1.symm.trans ho0)
        have hii : i = i0 := by
          rcases List.mem_cons.1 ((S'.cover i hlt).resolve_left hbf) with h | h
          · exact h
          · rcases n3 with h3 | h3
            · rw [e1] at h3; omega
            · exact absurd (S'.I.done _ (hdep _ (h3 i h))) n1
        subst hii
        have e2 : o0 = o := Option.some.inj (ho0.symm.trans ho)
        subst e2; subst e1
        have e := pB_set (l := listed) (i := i) (by omega)
        have hread : ∀ r' ∈ rs', ∀ s, r'.dst = some s → s ∈ looks ops o1 → pB listed r'.ix = true → r'.ix ∈ depAt dep i := by
          intro r' hr' s h1 h2 h3
          obtain ⟨oj, k1, k2, k3⟩ := S'.hops r' hr'
          have := pair_of (v := .und) (n := []) (v' := r'.v) (n' := r'.new) (n4 r'.ix (S'.I.bfs r' hr') oj k1)
          rcases this.1 s (by rw [← k2]; exact h1) h2 with h | h
          · exact h
          · refine absurd ?_ (hno hr' h3)
            rw [S'.I.deps r' hr']; exact h
        have hwant := wanted_of (S'.I.sees (rd := looks ops o1) hdep hdo.2.2 hread).2 hdst hg0
        unfold stepD at F
        split at F
        · rename_i hk; omega
        · rename_i hk; omega
        cases hb : barB (depAt dep i) rs' with
        | true =>
          rw [hb, cond_true] at F
          have hrs : ∀ r ∈ rs', pB listed r.ix = true := fun r hr => hdep _ (barB_spec hb r hr)
          have hM : recM (pB listed) M0 rs' = recM allB M0 rs' := recM_congr fun r hr => by rw [hrs r hr]; rfl
          rw [hM] at hst
          refine hop hwant (Oper.wp_mono ?_ (effOp_sound (S'.I.out hrs) hds (fun qs v M' h => withP.all h) F))
          rintro a' w' ⟨ρ', T', M', ⟨qs, v, hk, rfl⟩, h1, h2, h3⟩
          refine any_sound hd hdst hQ fuel (by simpa using hsz) (rs := []) (bf := i :: bf') (ord := r0) (T0 := putT o1.dst v (recT allB T0 rs')) (M0 := M') (ρ := ρ')
            ⟨Inv.start h2 (fun j => ?_) (fun j hj k hk => ?_), by simp, by simp, withP.rest hk, n5, fun j hj => ?_⟩ hfuel (Env.le_trans hle h1) (hst.trans h3)
          · rw [e]
            constructor
            · intro h
              rcases plus_cases h with h | h
              · rw [h]; simp
              · exact List.mem_cons_of_mem _ (S'.I.done j h)
            · intro h
              rcases List.mem_cons.1 h with h | h
              · rw [h]; exact plus_self _ _
              · rcases S'.I.base j h with h | ⟨r, hr, hri⟩
                · exact plus_old h
                · rw [← hri]; exact plus_old (hrs r hr)
          · rw [e] at hj ⊢
            rcases plus_cases hj with h | h
            · subst h; exact plus_old (hdep k hk)
            · exact plus_old (S'.I.clos j h k hk)
          · rcases S'.cover j hj with h | h
            · exact Or.inl (List.mem_cons_of_mem _ h)
            · rcases List.mem_cons.1 h with h | h
              · exact Or.inl (by simp [h])
              · exact Or.inr h
        | false =>
          rw [hb, cond_false] at F
          refine hop hwant (Oper.wp_mono ?_ (S'.I.run (dp := depAt dep i)
            (G := fun v E => drawOps Γ ops dep T0 M0 (⟨i, o1.dst, v, E, depAt dep i, looks ops o1⟩ :: rs') r0 K ∧ freshB (recM allB M0 rs') E = true) hds hdep hdo.2.2 hread
            (fun qs v M' h => ?_) F))
          · rintro a' w' ⟨v, E, x, ρ', ⟨hF, hfr⟩, h1, h2, h3, h4, h5, h6, h7⟩
            have hfr := freshB_spec hfr
            have I1 := S'.I.push (r := ⟨i, o1.dst, v, E, depAt dep i, looks ops o1⟩) n1 rfl hdo.2.2 n2 hds (S'.pairs n4) hfr
            have hself : inB (depAt dep i) i = false := by
              cases h : inB (depAt dep i) i with
              | false => rfl
              | true => exact absurd (n2 _ (memB_iff.1 h)) n1
            have eM : recM (inB (depAt dep i)) M0 (⟨i, o1.dst, v, E, depAt dep i, looks ops o1⟩ :: rs') = recM (inB (depAt dep i)) M0 rs' := by simp only [recM, hself, cond_false]
            have eP : recM (pB listed) M0 (⟨i, o1.dst, v, E, depAt dep i, looks ops o1⟩ :: rs') = recM (pB listed) M0 rs' := by simp only [recM, hpi, cond_false]
            have I2 := I1.mark (r := ⟨i, o1.dst, v, E, depAt dep i, looks ops o1⟩) (by simp) hpi hdep h1 h2 h3 (by rw [eM]; exact h4) (by rw [eM]; exact h5) (by rw [eP]; exact h6)
            refine any_sound hd hdst hQ fuel (by simpa using hsz) (rs := ⟨i, o1.dst, v, E, depAt dep i, looks ops o1⟩ :: rs') (bf := i :: bf') (ord := r0) (T0 := T0) (M0 := M0) (ρ := ρ')
              ⟨by rw [e]; exact I2, fun r hr => ?_, fun r hr hp => ?_, hF, n5, fun j hj => ?_⟩ hfuel (Env.le_trans hle h3) ?_
            · rcases List.mem_cons.1 hr with h | h
              · subst h; exact ⟨o1, ho, rfl, rfl⟩
              · exact S'.hops r h
            · rw [e] at hp
              rcases List.mem_cons.1 hr with h | h
              · subst h; rw [plus_self] at hp; cases hp
              · have hp2 : pB listed r.ix = false := by
                  cases h : pB listed r.ix with
                  | false => rfl
                  | true => rw [plus_old h] at hp; cases hp
                have hno2 : inB r.dep i = false := by
                  cases h' : inB r.dep i with
                  | false => rfl
                  | true => exact absurd (S'.I.below r h _ (memB_iff.1 h')) n1
                have e1 : recT (inB r.dep) T0 (⟨i, o1.dst, v, E, depAt dep i, looks ops o1⟩ :: rs') = recT (inB r.dep) T0 rs' := by simp only [recT, hno2, cond_false]
                have e2 : recM (inB r.dep) M0 (⟨i, o1.dst, v, E, depAt dep i, looks ops o1⟩ :: rs') = recM (inB r.dep) M0 rs' := by simp only [recM, hno2, cond_false]
                rw [e1, e2]
                exact S'.facts r h hp2
            · rcases S'.cover j hj with h | h
              · exact Or.inl (List.mem_cons_of_mem _ h)
              · rcases List.mem_cons.1 h with h | h
                · exact Or.inl (by simp [h])
                · exact Or.inr h
            · rw [e]
              refine hst.trans (h7.congr fun b => ?_)
              have := recM_plus (p := pB listed) I1.wf I1.uniq (r := ⟨i, o1.dst, v, E, depAt dep i, looks ops o1⟩) (by simp) hpi b
              rw [eP] at this
              exact this.symm
          · have hG := withP.rest h
            unfold Grow at hG
            obtain ⟨E, g1, g2, g3⟩ := hG
            refine ⟨withP.all h, E, g1, fun b e hb => ?_, g3, g2⟩
            have := freshB_spec g2 b e hb
            refine ⟨?_, this.2⟩
            cases hy : getM (recM (pB listed) M0 rs') b with
            | none => rfl
            | some e' =>
              have h1 := this.1
              rw [recM_mono (q := allB) S'.I.wf (fun _ _ _ => rfl) hy] at h1; cases h1

/-- A REGION THAT DRAWS ITS ORDER. -/
theorem Draw.sound {id : Nat} {T : Tm} {M : Mm} (hdst : dstOK N ops = true) (h : Draw Γ id ops T M K) {ρ : Env} {a : Act} {w : World} (hc : Conc N ρ T M a w) {Q : Exit → Act → World → Prop}
    (hQ : ∀ a' w', After N ρ M w K a' w' → Q .normal a' w') : (Code.region id ops.toArray true).wp Γ.P Q a w := by
  unfold Draw at h
  obtain ⟨dep, ord, hp, hF⟩ := h
  simp only [planAll, Bool.and_eq_true, List.all_eq_true] at hp
  obtain ⟨⟨hd, hplan⟩, hcov⟩ := hp
  have hg := Grows.drew w
  have e0 : pB (Array.replicate ops.toArray.size false) = fun _ => false := by
    funext j; exact getD_replicate_false _ _
  have hleft : left ops.length (fun _ => false) ≤ ops.toArray.size := by
    unfold left
    have := List.length_filter_le (fun j => !(fun _ : Nat => false) j) (List.range ops.length)
    simpa using this
  refine wp_region_any Γ.mixed ?_
  refine any_sound (ρ0 := ρ) (M00 := M) (w0 := w) (K := K) hd hdst hQ _ (by simp) (rs := []) (bf := []) (ord := ord) (T0 := T) (M0 := M) (ρ := ρ) ?_ ?_ (Env.le_refl _) ?_
  · rw [e0]
    refine ⟨Inv.start (hc.grows hg) (by simp) (by simp), by simp, by simp, hF, hplan, fun j hj => Or.inr (memB_iff.1 (hcov j (List.mem_range.2 hj)))⟩
  · rw [e0]; exact hleft
  · rw [e0]
    exact hg.step
end

end Go.Sx
