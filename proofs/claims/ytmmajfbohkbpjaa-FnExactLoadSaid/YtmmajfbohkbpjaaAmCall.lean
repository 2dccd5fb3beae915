/- Calls: what a contract says, and that the machine's calls are Go's own. No condition. -/
import Derived.Test.YtmmajfbohkbpjaaAmOps7
set_option linter.unusedVariables false
set_option linter.unusedSimpArgs false
namespace Go.Am
open Go.RowKit

/-! ### What a contract says -/
/-- A value of a kind, read. -/
def ValRd (w : World) (ok : Nat → Prop) (a : Ty × Bool) (x : a.1.D) (v : Value) : Prop :=
  ∃ cs, Rd w ok a.1 x cs ∧ v = (match a.2 with | true => .agg cs.toArray | false => cs.headD undef)
def ArgsRd (w : World) (ok : Nat → Prop) : (ps : List (Ty × Bool)) → Args ps → List Value → Prop
  | [], _, vs => vs = []
  | a :: l, x, vs => ∃ v vs', vs = v :: vs' ∧ ValRd w ok a x.1 v ∧ ArgsRd w ok l x.2 vs'

/-- Cells that came back: each slice a row of its own ('own': which block is which cell's), what it holds new. -/
def FrC (w : World) (base : Nat) (own : Nat → Option Nat) : (t : Ty) → t.D → Nat → List Value → Prop
  | .int k, x, _, cs => cs = [.int k x]
  | .bool, x, _, cs => cs = [.bool x]
  | .str, x, _, cs => cs = [.string x]
  | .unit, _, _, cs => cs = []
  | .pair a b, x, j, cs => ∃ c1 c2, cs = c1 ++ c2 ∧ FrC w base own a x.1 j c1 ∧ FrC w base own b x.2 (j + a.n) c2
  | .sl e t, xs, j, cs => ∃ v rows, cs = [v] ∧ 0 < t.n ∧ w.ownsRow base e t.n v xs.length rows ∧ (∀ g, v.ownBlock = some g → own g = some j) ∧ ElsIn w (fun g => base ≤ g ∧ own g = none) t rows xs

def ValFr (w : World) (base : Nat) (own : Nat → Option Nat) (a : Ty × Bool) (x : a.1.D) (j : Nat) (v : Value) : Prop :=
  ∃ cs, FrC w base own a.1 x j cs ∧ v = (match a.2 with | true => .agg cs.toArray | false => cs.headD undef)
def ResFr (w : World) (base : Nat) (own : Nat → Option Nat) : (rs : List (Ty × Bool)) → Args rs → Nat → List Value → Prop
  | [], _, _, vs => vs = []
  | a :: l, x, j, vs => ∃ v vs', vs = v :: vs' ∧ ValFr w base own a x.1 j v ∧ ResFr w base own l x.2 (j + a.1.n) vs'

/-- What a call hands back. -/
def retVal : List Value → Value
  | [v] => v
  | vs => .tuple vs.toArray

def ResOk (ok : Nat → Prop) (w w' : World) (con : Con) (r : Args con.rs) (vs : List Value) : Prop :=
  match con.m with
  | 0 => ArgsRd w' (fun g => w.heap.size ≤ g ∨ ok g) con.rs r vs
  | 1 => ArgsRd w' (fun g => w.heap.size ≤ g) con.rs r vs
  | _ => ∃ own : Nat → Option Nat, (∀ g j, own g = some j → w.heap.size ≤ g) ∧ ResFr w' w.heap.size own con.rs r 0 vs

/-- What is asked of the function behind a name. -/
def FnOk (P : Program) (f : FuncId) : Prop := ∃ fn, P.funcs[f]? = some fn ∧ (fn.name == "runtime.NumGoroutine") = false ∧ fn.body.isNone = false
def ConOk (P : Program) (f : FuncId) (con : Con) : Prop :=
  FnOk P f ∧
  ∀ (x : Args con.ps) (r : Args con.rs), con.g x = some r → ∀ (w : World) (ok : Nat → Prop) (vs : List Value), ArgsRd w ok con.ps x vs →
    Calls P f vs.toArray w fun e w' => ∃ us, e = .returned (retVal us) ∧ ResOk ok w w' con r us ∧ Below w.heap.size w w'

section
variable {P : Program} {w0 : Root} {w : World} {G : Gh} {st : St} {a : Act} {α : Type} {k : St → Option α} {r : α} {K : Act → World → Prop} {Q : Exit → Act → World → Prop} {o : Oper}

/-! ### The arguments -/
theorem imV_rd (h : Inv w0 G st a w) {ok : Nat → Prop} {p : Ty × Bool} {x : CV} {u : Value} {y : p.1.D} (hr : RelCV G w st.bx st.bl x u)
    (hc : ∀ t c v xs, c ∈ x.cells → RelC G w st.bx st.bl c v → slData st t c = some xs → ∀ e, Rd w ok (.sl e t) xs [v]) (hi : imV st p x = some y) : ValRd w ok p y u := by
  unfold imV at hi
  split at hi
  · rename_i l hb
    split at hi
    · rename_i z hz
      cases hi
      obtain ⟨cs, hv, hrel⟩ := hr
      obtain ⟨vs1, vs2, he, hrd, hr2, _⟩ := im_rd (ok := ok) hc hrel hz
      cases vs2 with
      | cons _ _ => exact hr2.elim
      | nil =>
        rw [List.append_nil] at he
        refine ⟨vs1, hrd, ?_⟩
        rw [hb, hv, ← he]
    · cases hi
  · rename_i c hb
    split at hi
    · rename_i z hz
      cases hi
      obtain ⟨vs1, vs2, he, hrd, hr2, _⟩ := im_rd (ok := ok) (l := [c]) (vs := [u]) hc ⟨hr, trivial⟩ hz
      cases vs2 with
      | cons _ _ => exact hr2.elim
      | nil =>
        rw [List.append_nil] at he
        refine ⟨vs1, hrd, ?_⟩
        rw [hb, ← he]
        rfl
    · cases hi
  · cases hi

theorem im1_rd (h : Inv w0 G st a w) {ok : Nat → Prop} {p : Ty × Bool} {x : Operand} {y : p.1.D}
    (hc : ∀ t c v xs, c ∈ (st.evc x).cells → RelC G w st.bx st.bl c v → slData st t c = some xs → ∀ e, Rd w ok (.sl e t) xs [v]) (hi : im1 st p x = some y) : ValRd w ok p y (a.eval x) :=
  imV_rd h (h.evc x) hc hi

theorem imVs_rd (h : Inv w0 G st a w) {ok : Nat → Prop} : ∀ (ps : List (Ty × Bool)) (cs : List CV) (vs : List Value) (x : Args ps), All2 (RelCV G w st.bx st.bl) cs vs →
    (∀ t c v xs, c ∈ cvCells cs → RelC G w st.bx st.bl c v → slData st t c = some xs → ∀ e, Rd w ok (.sl e t) xs [v]) → imVs st ps cs = some x → ArgsRd w ok ps x vs
  | [], [], [], x, _, _, hi => rfl
  | [], [], _ :: _, _, h, _, _ => h.elim
  | _, _ :: _, [], _, h, _, _ => h.elim
  | [], _ :: _, _ :: _, x, _, _, hi => by simp [imVs] at hi
  | _ :: _, [], _, x, _, _, hi => by simp [imVs] at hi
  | p :: ps, y :: os, v :: vs, x, hr, hc, hi => by
    simp only [imVs] at hi
    split at hi
    · rename_i z hz
      split at hi
      · rename_i zs hzs
        cases hi
        exact ⟨v, vs, rfl, imV_rd h hr.1 (fun t c v xs hm => hc t c v xs (by simp [cvCells, hm])) hz, imVs_rd h ps os vs zs hr.2 (fun t c v xs hm => hc t c v xs (by simp [cvCells, hm])) hzs⟩
      · cases hi
    · cases hi

theorem imArgs_rd (h : Inv w0 G st a w) {ok : Nat → Prop} : ∀ (ps : List (Ty × Bool)) (os : List Operand) (x : Args ps),
    (∀ t c v xs, c ∈ callArgs st os → RelC G w st.bx st.bl c v → slData st t c = some xs → ∀ e, Rd w ok (.sl e t) xs [v]) → imArgs st ps os = some x → ArgsRd w ok ps x (os.map a.eval)
  | [], [], x, _, hi => rfl
  | [], _ :: _, x, _, hi => by simp [imArgs] at hi
  | _ :: _, [], x, _, hi => by simp [imArgs] at hi
  | p :: ps, y :: os, x, hc, hi => by
    simp only [imArgs] at hi
    split at hi
    · rename_i z hz
      split at hi
      · rename_i zs hzs
        cases hi
        exact ⟨a.eval y, os.map a.eval, rfl, im1_rd h (fun t c v xs hm => hc t c v xs (by simp [callArgs, hm])) hz, imArgs_rd h ps os zs (fun t c v xs hm => hc t c v xs (by simp [callArgs, hm])) hzs⟩
      · cases hi
    · cases hi

/-- Whatever is known may be read by a callee. -/
theorem any_rd (h : Inv w0 G st a w) : ∀ t c v xs, RelC G w st.bx st.bl c v → slData st t c = some xs → ∀ e, Rd w (fun _ => True) (.sl e t) xs [v] :=
  fun t c v xs hr hd => slData_rd h hr hd (fun _ _ _ _ _ => ⟨fun _ _ => trivial, fun _ _ _ => trivial⟩) (fun _ _ _ _ _ _ _ => trivial)

/-! ### What comes back -/
structure RowFr (w : World) (base : Nat) (own : Nat → Option Nat) (id : Nat) (z : Nat × Blk × Value) : Prop where
  wr : z.2.1.w = true
  nf : z.2.1.f = true
  pos : 0 < z.2.1.t.n
  row : ∃ rows, w.ownsRow base z.2.1.e z.2.1.t.n z.2.2 z.2.1.xs.length rows ∧ ElsIn w (fun g => base ≤ g ∧ own g = none) z.2.1.t rows z.2.1.xs
  blk : ∀ g, z.2.2.ownBlock = some g → own g = some (z.1 - id * 64)

def CellFr (L : List (Nat × Blk × Value)) : AC → Value → Prop
  | .int k n, v => v = .int k n
  | .bool b, v => v = .bool b
  | .str s, v => v = .string s
  | .own i none, v => ∃ b, (i, b, v) ∈ L
  | _, _ => False

theorem CellFr.weak {L L' : List (Nat × Blk × Value)} (h : ∀ z ∈ L, z ∈ L') : ∀ {c : AC} {v : Value}, CellFr L c v → CellFr L' c v
  | .int _ _, _, hc => hc
  | .bool _, _, hc => hc
  | .str _, _, hc => hc
  | .own i none, v, ⟨b, hb⟩ => ⟨b, h _ hb⟩
  | .own i (some l), v, hc => hc.elim
  | .none, _, hc => hc.elim
  | .nil, _, hc => hc.elim
  | .ro _ _ _ _, _, hc => hc.elim
  | .ptr _ _, _, hc => hc.elim
  | .eown _ _ _, _, hc => hc.elim
  | .ero _ _ _ _, _, hc => hc.elim

structure Fr (w : World) (base : Nat) (own : Nat → Option Nat) (id lo hi : Nat) (q : List (Nat × Option Blk)) (L : List (Nat × Blk × Value)) : Prop where
  q : q = L.map fun z => (z.1, some z.2.1)
  rows : ∀ z ∈ L, id * 64 + lo ≤ z.1 ∧ z.1 < id * 64 + hi ∧ RowFr w base own id z
  uniq : ∀ z ∈ L, ∀ z' ∈ L, z.1 = z'.1 → z = z'

theorem Fr.nil {w : World} {base : Nat} {own : Nat → Option Nat} {id lo hi : Nat} : Fr w base own id lo hi [] [] := ⟨rfl, fun z hz => by simp at hz, fun z hz => by simp at hz⟩
theorem Fr.app {w : World} {base : Nat} {own : Nat → Option Nat} {id lo mid hi : Nat} {q q' : List (Nat × Option Blk)} {L L' : List (Nat × Blk × Value)} (h : Fr w base own id lo mid q L) (h' : Fr w base own id mid hi q' L') (h1 : lo ≤ mid) (h2 : mid ≤ hi) :
    Fr w base own id lo hi (q ++ q') (L ++ L') := by
  refine ⟨by rw [h.q, h'.q, List.map_append], fun z hz => ?_, fun z hz z' hz' he => ?_⟩
  · rcases List.mem_append.1 hz with hz | hz
    · obtain ⟨h3, h4, h5⟩ := h.rows z hz
      exact ⟨h3, by omega, h5⟩
    · obtain ⟨h3, h4, h5⟩ := h'.rows z hz
      exact ⟨by omega, h4, h5⟩
  · rcases List.mem_append.1 hz with hz | hz <;> rcases List.mem_append.1 hz' with hz' | hz'
    · exact h.uniq z hz z' hz' he
    · have := (h.rows z hz).2.1
      have := (h'.rows z' hz').1
      omega
    · have := (h'.rows z hz).1
      have := (h.rows z' hz').2.1
      omega
    · exact h'.uniq z hz z' hz' he

theorem exR_fr {w : World} {base : Nat} {own : Nat → Option Nat} {id : Nat} : ∀ {t : Ty} {x : t.D} {j : Nat} {cs : List Value}, FrC w base own t x j cs →
    ∃ L, Fr w base own id j (j + t.n) (exR id true t x j).2 L ∧ All2 (CellFr L) (exR id true t x j).1 cs
  | .int k, x, j, cs, h => ⟨[], .nil, by rw [show cs = _ from h]; exact ⟨rfl, trivial⟩⟩
  | .bool, x, j, cs, h => ⟨[], .nil, by rw [show cs = _ from h]; exact ⟨rfl, trivial⟩⟩
  | .str, x, j, cs, h => ⟨[], .nil, by rw [show cs = _ from h]; exact ⟨rfl, trivial⟩⟩
  | .unit, x, j, cs, h => ⟨[], .nil, by rw [show cs = _ from h]; trivial⟩
  | .pair a b, x, j, cs, h => by
    obtain ⟨c1, c2, rfl, h1, h2⟩ := h
    obtain ⟨L1, h3, h4⟩ := exR_fr (id := id) h1
    obtain ⟨L2, h5, h6⟩ := exR_fr (id := id) h2
    refine ⟨L1 ++ L2, ?_, All2.app (h4.imp fun _ _ => CellFr.weak fun z hz => by simp [hz]) (h6.imp fun _ _ => CellFr.weak fun z hz => by simp [hz])⟩
    have := h3.app h5 (by omega) (by omega)
    rw [Nat.add_assoc] at this
    exact this
  | .sl e t, xs, j, cs, h => by
    obtain ⟨v, rows, rfl, hp, ho, hb, he⟩ := h
    refine ⟨[(id * 64 + j, ⟨e, t, xs, true, true⟩, v)], ⟨rfl, fun z hz => ?_, fun z hz z' hz' _ => ?_⟩, ⟨⟨e, t, xs, true, true⟩, by simp⟩, trivial⟩
    · simp at hz
      subst hz
      refine ⟨Nat.le_refl _, by simp [Ty.n], rfl, rfl, hp, ⟨rows, ho, he⟩, fun g hg => ?_⟩
      rw [hb g hg]
      congr 1
      omega
    · simp at hz hz'
      rw [hz, hz']

def CVFr (L : List (Nat × Blk × Value)) : CV → Value → Prop
  | .c x, v => CellFr L x v
  | .agg l, v => ∃ cs, v = .agg cs ∧ All2 (CellFr L) l cs.toList

theorem CVFr.weak {L L' : List (Nat × Blk × Value)} (h : ∀ z ∈ L, z ∈ L') {c : CV} {v : Value} (hc : CVFr L c v) : CVFr L' c v := by
  cases c with
  | c x => exact CellFr.weak h hc
  | agg l =>
    obtain ⟨cs, he, hr⟩ := hc
    exact ⟨cs, he, hr.imp fun _ _ => CellFr.weak h⟩

theorem ex1_fr {w : World} {base : Nat} {own : Nat → Option Nat} {id : Nat} {p : Ty × Bool} {x : p.1.D} {j : Nat} {v : Value} (h : ValFr w base own p x j v) (hs : p.2 = true ∨ p.1.n = 1) :
    ∃ L, Fr w base own id j (j + p.1.n) (ex1 id p x j).2 L ∧ CVFr L (ex1 id p x j).1 v := by
  obtain ⟨cs, h1, h2⟩ := h
  obtain ⟨L, h3, h4⟩ := exR_fr (id := id) h1
  refine ⟨L, h3, ?_⟩
  obtain ⟨t, ag⟩ := p
  cases ag with
  | true => exact ⟨cs.toArray, h2, h4⟩
  | false =>
    have hn : t.n = 1 := by simpa using hs
    have : cs.length = 1 := by
      have hl : ∀ {t : Ty} {x : t.D} {j : Nat} {cs : List Value}, FrC w base own t x j cs → cs.length = t.n := by
        intro t
        induction t with
        | int k => intro x j cs h; rw [show cs = _ from h]; rfl
        | bool => intro x j cs h; rw [show cs = _ from h]; rfl
        | str => intro x j cs h; rw [show cs = _ from h]; rfl
        | unit => intro x j cs h; rw [show cs = _ from h]; rfl
        | pair a b iha ihb =>
          intro x j cs h
          obtain ⟨c1, c2, rfl, h1, h2⟩ := h
          simp [Ty.n, iha h1, ihb h2]
        | sl e t _ =>
          intro x j cs h
          obtain ⟨v, rows, rfl, _⟩ := h
          rfl
      rw [hl h1]
      exact hn
    obtain ⟨u, rfl⟩ : ∃ u, cs = [u] := by
      cases cs with
      | nil => simp at this
      | cons u cs =>
        cases cs with
        | nil => exact ⟨u, rfl⟩
        | cons _ _ => simp at this
    show CellFr L (match (exR id true t x j).1 with | [c] => c | _ => .none) v
    rw [show v = u from h2]
    revert h4
    generalize (exR id true t x j).1 = l
    intro h4
    cases l with
    | nil => exact h4.elim
    | cons c l =>
      cases l with
      | nil => exact h4.1
      | cons _ _ => exact h4.2.elim

theorem exRs_fr {w : World} {base : Nat} {own : Nat → Option Nat} {id : Nat} : ∀ {rs : List (Ty × Bool)} {x : Args rs} {j : Nat} {vs : List Value}, flatOk rs = true → ResFr w base own rs x j vs →
    ∃ L hi, j ≤ hi ∧ Fr w base own id j hi (exRs id rs x j).2 L ∧ All2 (CVFr L) (exRs id rs x j).1 vs
  | [], x, j, vs, _, h => ⟨[], j, Nat.le_refl _, .nil, by rw [show vs = [] from h]; trivial⟩
  | a :: l, x, j, vs, hf, h => by
    obtain ⟨v, vs', rfl, h1, h2⟩ := h
    simp only [flatOk, Bool.and_eq_true, Bool.or_eq_true] at hf
    obtain ⟨L1, h3, h4⟩ := ex1_fr (id := id) h1 (hf.1.imp_right beq_nat)
    obtain ⟨L2, hi, hle, h5, h6⟩ := exRs_fr (id := id) hf.2 h2
    exact ⟨L1 ++ L2, hi, by omega, h3.app h5 (by omega) hle, h4.weak fun z hz => by simp [hz], h6.imp fun _ _ => CVFr.weak fun z hz => by simp [hz]⟩

theorem look_map {L : List (Nat × Blk × Value)} {i : Nat} : ∀ {b : Blk}, look (L.map fun z => (z.1, some z.2.1)) i = some (some b) → ∃ v, (i, b, v) ∈ L := by
  induction L with
  | nil => intro b h; simp [look] at h
  | cons z L ih =>
    intro b h
    rw [List.map_cons, look_cons] at h
    by_cases hi : z.1 = i
    · simp only [hi, if_true] at h
      cases h
      refine ⟨z.2.2, ?_⟩
      rw [← hi]
      simp
    · simp only [hi, if_false] at h
      obtain ⟨v, hv⟩ := ih h
      exact ⟨v, by simp [hv]⟩
theorem look_map_some {L : List (Nat × Blk × Value)} {i : Nat} (h : (look (L.map fun z => (z.1, some z.2.1)) i).isSome = true) : ∃ z ∈ L, z.1 = i := by
  induction L with
  | nil => simp [look] at h
  | cons z L ih =>
    rw [List.map_cons, look_cons] at h
    by_cases hi : z.1 = i
    · exact ⟨z, by simp, hi⟩
    · simp only [hi, if_false] at h
      obtain ⟨z', h1, h2⟩ := ih h
      exact ⟨z', by simp [h1], h2⟩
theorem look_map_mem {L : List (Nat × Blk × Value)} {z : Nat × Blk × Value} (h : z ∈ L) : (look (L.map fun z => (z.1, some z.2.1)) z.1).isSome = true := by
  induction L with
  | nil => simp at h
  | cons y L ih =>
    rw [List.map_cons, look_cons]
    by_cases hi : y.1 = z.1
    · simp [hi]
    · simp only [hi, if_false]
      rcases List.mem_cons.1 h with rfl | h
      · exact absurd rfl hi
      · exact ih h

def hvL (L : List (Nat × Blk × Value)) (i : Nat) : Value := match L.find? (·.1 == i) with | some z => z.2.2 | none => undef
theorem hvL_mem {L : List (Nat × Blk × Value)} (hu : ∀ z ∈ L, ∀ z' ∈ L, z.1 = z'.1 → z = z') {z : Nat × Blk × Value} (h : z ∈ L) : hvL L z.1 = z.2.2 := by
  unfold hvL
  cases hf : L.find? (·.1 == z.1) with
  | none =>
    have := List.find?_eq_none.1 hf z h
    simp at this
  | some y =>
    have h1 := List.find?_some hf
    have h2 := List.mem_of_find?_eq_some hf
    have := hu y h2 z h (by simpa using h1)
    rw [this]

theorem freshNames_ne : ∀ {q : List (Nat × Option Blk)}, freshNames q st = true → ∀ id, (look q id).isSome = true → look st.bl id = none
  | [], _, id, h => by simp [look] at h
  | (i, b) :: q, hf, id, h => by
    simp only [freshNames, Bool.and_eq_true] at hf
    rw [look_cons] at h
    by_cases hi : i = id
    · subst hi
      cases hl : look st.bl i with
      | none => rfl
      | some x => rw [hl] at hf; simp at hf
    · simp only [hi, if_false] at h
      exact freshNames_ne hf.2 id h

theorem ret_rel {R : CV → Value → Prop} {G : Gh} {w : World} {bx : List (Nat × List AC)} {bl : List (Nat × Option Blk)} {cs : List CV} {vs : List Value} (h : All2 (RelCV G w bx bl) cs vs) :
    RelAV G w bx bl (retAV cs) (retVal vs) := by
  cases cs with
  | nil =>
    cases vs with
    | nil => exact ⟨_, rfl, trivial⟩
    | cons _ _ => exact h.elim
  | cons c cs =>
    cases vs with
    | nil => exact h.elim
    | cons v vs =>
      cases cs with
      | nil =>
        cases vs with
        | nil => exact h.1
        | cons _ _ => exact h.2.elim
      | cons c' cs =>
        cases vs with
        | nil => exact h.2.elim
        | cons v' vs => exact ⟨_, rfl, h⟩

theorem exF_rel {f : Bool} {G : Gh} {w : World} {bx : List (Nat × List AC)} {bl : List (Nat × Option Blk)} : ∀ {rs : List (Ty × Bool)} {x : Args rs} {vs : List Value}, flatOk rs = true → ArgsRd w (RO G f) rs x vs →
    All2 (RelCV G w bx bl) (exF f rs x) vs
  | [], x, vs, _, h => by rw [show vs = [] from h]; trivial
  | a :: l, x, vs, hf, h => by
    obtain ⟨v, vs', rfl, ⟨cs, h1, h2⟩, h3⟩ := h
    simp only [flatOk, Bool.and_eq_true, Bool.or_eq_true] at hf
    have h4 := exF_rel (bx := bx) (bl := bl) hf.2 h3
    have hrel := ex_rel (bx := bx) (bl := bl) h1
    refine ⟨?_, h4⟩
    obtain ⟨t, ag⟩ := a
    cases ag with
    | true => exact ⟨cs.toArray, h2, hrel⟩
    | false =>
      have hn : t.n = 1 := by
        rcases hf.1 with h | h
        · cases h
        · exact beq_nat h
      obtain ⟨u, rfl⟩ := one_cell h1 hn
      show RelC G w bx bl (match ex f t x.1 with | [c] => c | _ => .none) v
      rw [show v = u from h2]
      revert hrel
      generalize ex f t x.1 = l'
      intro hrel
      cases l' with
      | nil => exact hrel.elim
      | cons c l' =>
        cases l' with
        | nil => exact hrel.1
        | cons _ _ => exact hrel.2.elim

theorem args_weak {w : World} {ok ok' : Nat → Prop} (h : ∀ g, ok g → ok' g) : ∀ {ps : List (Ty × Bool)} {x : Args ps} {vs : List Value}, ArgsRd w ok ps x vs → ArgsRd w ok' ps x vs
  | [], _, _, hr => hr
  | a :: l, x, vs, hr => by
    obtain ⟨v, vs', rfl, ⟨cs, h1, h2⟩, h3⟩ := hr
    exact ⟨v, vs', rfl, ⟨cs, rd_weak h h1, h2⟩, args_weak h h3⟩

/-- Behind a call: rows of the caller's own. -/
theorem back_own {rs : List (Ty × Bool)} (hflat : flatOk rs = true) {w' : World} (h : Inv w0 G st a w) (hB : Below w.heap.size w w') {y : Args rs} {us : List Value}
    (hres : ∃ own : Nat → Option Nat, (∀ g j, own g = some j → w.heap.size ≤ g) ∧ ResFr w' w.heap.size own rs y 0 us) {d : Tmp} (hc2 : Nat.blt d st.nt = true) (hc1 : freshNames (exRs d rs y 0).2 st = true)
    (hr : (k { (st.put d (retAV (exRs d rs y 0).1)) with bl := (exRs d rs y 0).2 ++ st.bl }) = some r) (hK : Goes w0 k r K) :
    K (a.put (some d) (retVal us)) w' := by
  have hg : w.grownBy w' none := ⟨hB.os, hB.tape, hB.output, hB.size, fun k hk _ => hB.block k hk⟩
  have hbase : G.base ≤ w.heap.size := by rw [h.base]; exact h.below.size
  · obtain ⟨own, hown, hfr⟩ := hres
    obtain ⟨L, hi, _, hF, hcv⟩ := exRs_fr (id := d) hflat hfr
    have hq := hF.q
    -- which new block is whose
    let nw : Nat → Option Nat := fun g => match own g with
      | some j => match L.find? (·.1 == d * 64 + j) with
        | some z => if z.2.2.ownBlock = some g then some z.1 else none
        | none => none
      | none => none
    have hnw : ∀ g id, nw g = some id → ∃ z ∈ L, z.1 = id ∧ z.2.2.ownBlock = some g := by
      intro g id hn
      simp only [nw] at hn
      split at hn
      · split at hn
        · rename_i z hz
          split at hn
          · cases hn
            exact ⟨z, List.mem_of_find?_eq_some hz, rfl, by assumption⟩
          · cases hn
        · cases hn
      · cases hn
    have hnwz : ∀ z ∈ L, ∀ g, z.2.2.ownBlock = some g → nw g = some z.1 := by
      intro z hz g hg
      have hb := (hF.rows z hz).2.2.blk g hg
      have hlo := (hF.rows z hz).1
      simp only [nw, hb]
      have hj : d * 64 + (z.1 - d * 64) = z.1 := Nat.add_sub_of_le hlo
      rw [hj]
      cases hf : L.find? (·.1 == z.1) with
      | none =>
        have := List.find?_eq_none.1 hf z hz
        simp at this
      | some y =>
        have h1 := List.find?_some hf
        have h2 := List.mem_of_find?_eq_some hf
        have := hF.uniq y h2 z hz (by simpa using h1)
        subst this
        simp [hg]
    have hnwn : ∀ g, own g = none → nw g = none := by
      intro g hg
      simp only [nw, hg]
    have hxt := h.grow_ext none hg (fun g hg => by cases hg) (exRs d rs y 0).2 (hvL L) nw (fun g id hn => by
      obtain ⟨z, hz, _, hzb⟩ := hnw g id hn
      exact .inl (hown g _ ((hF.rows z hz).2.2.blk g hzb)))
    have hro : ∀ g, w.heap.size ≤ g ∧ own g = none → RO (G.grow none (exRs d rs y 0).2 (hvL L) nw) true g := by
      intro g hg
      refine ⟨?_, .inl <| Nat.le_trans hbase hg.1⟩
      have : G.own g = none := by
        cases ho : G.own g with
        | none => rfl
        | some k => have := (h.own _ _ ho).2.1; omega
      simp [Gh.grow, hnwn g hg.2, this]
    obtain ⟨hinv, _, hst⟩ := h.grow none hg (fun g hg => by cases hg) (exRs d rs y 0).2 (hvL L) nw (fun id hs => freshNames_ne hc1 id hs)
      (fun g id hn => by
        obtain ⟨z, hz, rfl, hzb⟩ := hnw g id hn
        obtain ⟨h1, h2, h3⟩ := hF.rows z hz
        refine ⟨by rw [hq]; exact look_map_mem hz, by rw [hvL_mem hF.uniq hz]; exact hzb, ?_, .inl (hown g _ (h3.blk g hzb))⟩
        obtain ⟨rows, ho, _⟩ := h3.row
        rcases ho.2 with ⟨he, _⟩ | ⟨g', cap, cur, he, _, hh, _⟩
        · rw [he] at hzb; simp [Value.ownBlock] at hzb
        · rw [he] at hzb
          have : g' = g := by simpa [Value.ownBlock] using hzb
          subst this
          exact (Array.getElem?_eq_some_iff.1 hh).1)
      (fun id b hb => by
        have hb0 := hb
        rw [hq] at hb
        obtain ⟨v, hv⟩ := look_map hb
        obtain ⟨h1, h2, h3⟩ := hF.rows _ hv
        have hhv : (G.grow none (exRs d rs y 0).2 (hvL L) nw).hv id = v := by
          have : (look (exRs d rs y 0).2 id).isSome = true := by rw [hb0]; rfl
          simp only [Gh.grow, this, if_true]
          exact hvL_mem hF.uniq hv
        obtain ⟨rows, ho, hels⟩ := h3.row
        refine ⟨fun _ => ⟨rows, ?_, ?_, ?_⟩, fun hw => ?_, h3.pos⟩
        · rw [hhv]
          refine ⟨ho.1, ?_⟩
          rcases ho.2 with h4 | ⟨g', cap, cur, he, hb', r⟩
          · exact .inl h4
          · exact .inr ⟨g', cap, cur, he, Nat.le_trans hbase hb', r⟩
        · rw [hhv]
          intro g hg
          have := hnwz _ hv g hg
          simp [Gh.grow, this]
        · have hf : b.f = true := h3.nf
          rw [hf]
          exact els_weak hro hels
        · have := h3.wr
          rw [show b.w = true from this] at hw
          cases hw)
    have hrel : All2 (RelCV (G.grow none (exRs d rs y 0).2 (hvL L) nw) w' st.bx ((exRs d rs y 0).2 ++ st.bl)) (exRs d rs y 0).1 us := by
      have cell : ∀ c v, CellFr L c v → RelC (G.grow none (exRs d rs y 0).2 (hvL L) nw) w' st.bx ((exRs d rs y 0).2 ++ st.bl) c v := by
        intro c v hc
        cases c with
        | own i len =>
          cases len with
          | some l => exact hc.elim
          | none =>
            obtain ⟨b, hb⟩ := hc
            have hs := look_map_mem hb
            rw [← hq] at hs
            have hhv : (G.grow none (exRs d rs y 0).2 (hvL L) nw).hv i = v := by
              simp only [Gh.grow, hs, if_true]
              exact hvL_mem hF.uniq hb
            refine ⟨?_, ?_, hhv.symm⟩
            · rw [look_append]
              cases hl : look (exRs d rs y 0).2 i with
              | none => rw [hl] at hs; cases hs
              | some x => rfl
            · rw [hhv]
              obtain ⟨rows, ho, _⟩ := (hF.rows _ hb).2.2.row
              rcases ho.2 with ⟨he, _⟩ | ⟨g', cap, cur, he, _⟩
              · exact ⟨_, _, _, he⟩
              · exact ⟨_, _, _, he⟩
        | int k n => exact hc
        | bool b => exact hc
        | str s => exact hc
        | _ => exact hc.elim
      refine hcv.imp fun c v hc => ?_
      cases c with
      | c x => exact cell x v hc
      | agg l =>
        obtain ⟨cs, he, hl⟩ := hc
        exact ⟨cs, he, hl.imp cell⟩
    have h2 := hinv.put d (blt_lt hc2) (ret_rel (R := fun _ _ => True) hrel)
    exact hK _ _ _ _ h2 hr
/-- Behind a call: what is read only. -/
theorem back_ro {rs : List (Ty × Bool)} (hflat : flatOk rs = true) {w' : World} (h : Inv w0 G st a w) (hB : Below w.heap.size w w') {y : Args rs} {us : List Value} {f : Bool} {ok : Nat → Prop}
    (hres : ArgsRd w' ok rs y us) (hok : ∀ g, ok g → w.heap.size ≤ g ∨ RO G f g) {d : Tmp} (hc2 : Nat.blt d st.nt = true)
    (hr : k (st.put d (retAV (exF f rs y))) = some r) (hK : Goes w0 k r K) :
    K (a.put (some d) (retVal us)) w' := by
  have hg : w.grownBy w' none := ⟨hB.os, hB.tape, hB.output, hB.size, fun k hk _ => hB.block k hk⟩
  have hbase : G.base ≤ w.heap.size := by rw [h.base]; exact h.below.size
  obtain ⟨hinv, hxt, hst⟩ := h.grow none hg (fun g hg => by cases hg) [] G.hv (fun _ => none) (fun id hs => by simp [look] at hs) (fun g id hn => by cases hn) (fun id b hb => by simp [look] at hb)
  have hro : ∀ g, ok g → RO (G.grow none [] G.hv (fun _ => none)) f g := by
    intro g hg
    rcases hok g hg with hg | hg
    · refine ⟨?_, .inl <| Nat.le_trans hbase hg⟩
      have : G.own g = none := by
        cases ho : G.own g with
        | none => rfl
        | some k => have := (h.own _ _ ho).2.1; omega
      simp [Gh.grow, this]
    · exact ⟨by simp [Gh.grow, hg.1], hg.2⟩
  have h1 := exF_rel (G := G.grow none [] G.hv (fun _ => none)) (bx := st.bx) (bl := [] ++ st.bl) hflat (args_weak hro hres)
  have h3 := hinv.put d (blt_lt hc2) (ret_rel (R := fun _ _ => True) h1)
  exact hK _ _ _ _ h3 hr
end
end Go.Am
