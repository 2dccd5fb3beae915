/- Calls: what a contract says, and that the machine's calls are Go's own. No condition. -/
import Derived.Test.YtijjjmdoflbmfaaGreatDoorAmOps7
set_option linter.unusedVariables false
set_option linter.unusedSimpArgs false
namespace Go.Am
open Go.RowKit

/-! ### What a contract says -/
/-- A value of a kind, read. -/
def ValRd (w : World) (ok : Nat → Prop) (a : Ty × Bool) (x : a.1.D) (v : Value) : Prop :=
  ∃ cs, Rd w ok a.1 x cs ∧ v = (match a.2 with | true => .agg cs.toArray | false => cs.headD undef)
def ArgsRd (w : World) (ok : Nat → Prop) : (ps : List (Ty × Bool)) → Args ps → List Value → Prop
  | [], _, vs => vs = []
  | a :: l, x, vs => ∃ v vs', vs = v :: vs' ∧ ValRd w ok a x.1 v ∧ ArgsRd w ok l x.2 vs'

/-- Cells that came back: each slice a row of its own ('own': which block is which cell's), what it holds new. -/
def FrC (w : World) (okE : Nat → Prop) (own : Nat → Option Nat) : (t : Ty) → t.D → Nat → List Value → Prop
  | .int k, x, _, cs => cs = [.int k x]
  | .bool, x, _, cs => cs = [.bool x]
  | .str, x, _, cs => cs = [.string x]
  | .unit, _, _, cs => cs = []
  | .pair a b, x, j, cs => ∃ c1 c2, cs = c1 ++ c2 ∧ FrC w okE own a x.1 j c1 ∧ FrC w okE own b x.2 (j + a.n) c2
  | .sl e t, xs, j, cs => ∃ v rows, cs = [v] ∧ 0 < t.n ∧ w.ownsRow 0 e t.n v xs.length rows ∧ (∀ g, v.ownBlock = some g → own g = some j) ∧ ElsIn w okE t rows xs

def ValFr (w : World) (okE : Nat → Prop) (own : Nat → Option Nat) (a : Ty × Bool) (x : a.1.D) (j : Nat) (v : Value) : Prop :=
  ∃ cs, FrC w okE own a.1 x j cs ∧ v = (match a.2 with | true => .agg cs.toArray | false => cs.headD undef)
def ResFr (w : World) (okE : Nat → Prop) (own : Nat → Option Nat) : (rs : List (Ty × Bool)) → Args rs → Nat → List Value → Prop
  | [], _, _, vs => vs = []
  | a :: l, x, j, vs => ∃ v vs', vs = v :: vs' ∧ ValFr w okE own a x.1 j v ∧ ResFr w okE own l x.2 (j + a.1.n) vs'

/-- What a call hands back. -/
def retVal : List Value → Value
  | [v] => v
  | vs => .tuple vs.toArray

def ResOk (ok : Nat → Prop) (w w' : World) (con : Con) (r : Args con.rs) (vs : List Value) : Prop :=
  match con.m with
  | 0 => ArgsRd w' (fun g => w.heap.size ≤ g ∨ ok g) con.rs r vs
  | 1 => ArgsRd w' (fun g => w.heap.size ≤ g) con.rs r vs
  | _ => ∃ own : Nat → Option Nat, (∀ g j, own g = some j → w.heap.size ≤ g) ∧ ResFr w' (fun g => w.heap.size ≤ g ∧ own g = none) own con.rs r 0 vs

/-- What is asked of the function behind a name. -/
def FnOk (P : Program) (f : FuncId) : Prop := ∃ fn, P.funcs[f]? = some fn ∧ (fn.name == "runtime.NumGoroutine") = false ∧ fn.body.isNone = false
/-- The contract, in every world that has grown out of w0. -/
def ConAt (P : Program) (w0 : Root) (f : FuncId) (con : Con) : Prop :=
  FnOk P f ∧
  ∀ (x : Args con.ps) (r : Args con.rs), con.g x = some r → ∀ (w : World), Keeps w0.fr w0.w w → ∀ (ok : Nat → Prop) (vs : List Value), ArgsRd w ok con.ps x vs →
    Calls P f vs.toArray w fun e w' => ∃ us, e = .returned (retVal us) ∧ ResOk ok w w' con r us ∧ Below w.heap.size w w'
/-- What is asked of the worlds (tables of the library that stand there): it stays where memory is added. -/
structure Tab where
  p : World → Prop
  bl : Nat → Prop       -- where they stand
  lt : ∀ w, p w → ∀ b, bl b → b < w.heap.size
  mono : ∀ w w', p w → (∀ b, bl b → w'.heap[b]? = w.heap[b]?) → p w'
def Tab.none : Tab := ⟨fun _ => True, fun _ => False, fun _ _ _ h => h.elim, fun _ _ _ _ => trivial⟩
def ConOk (P : Program) (T : Tab) (f : FuncId) (con : Con) : Prop :=
  FnOk P f ∧
  ∀ (x : Args con.ps) (r : Args con.rs), con.g x = some r → ∀ (w : World), T.p w → ∀ (ok : Nat → Prop) (vs : List Value), ArgsRd w ok con.ps x vs →
    Calls P f vs.toArray w fun e w' => ∃ us, e = .returned (retVal us) ∧ ResOk ok w w' con r us ∧ Below w.heap.size w w'
theorem Tab.keeps {T : Tab} {w0 : Root} (hT : T.p w0.w) (hf : ∀ b, w0.fr b → ¬ T.bl b) {w : World} (hK : Keeps w0.fr w0.w w) : T.p w :=
  T.mono w0.w w hT fun b hb => hK.block b (T.lt _ hT b hb) fun h => hf b h hb
/-! ### A parameter that is handed over -/
def nOf : List (Ty × Bool) → Nat
  | [] => 0
  | a :: l => a.1.n + nOf l
def SpIn (w : World) (ok nw : Nat → Prop) (own : Nat → Option Nat) (g0 : Nat) (pm : PM) (a : Ty × Bool) (x : a.1.D) (v : Value) : Prop := match pm with
  | .rd => ValRd w ok a x v
  | .own f => ValFr w (fun g => own g = none ∧ (nw g ∨ (f = false ∧ ok g))) own a x 0 v
  | .box => v = .pointer (some ⟨g0, 0, none⟩) ∧ (own g0).isSome = true ∧ ∃ cs e, w.heap[g0]? = some (.cells cs e (0, 0)) ∧ Rd w ok a.1 x cs.toList
  | .cur => v = .pointer (some ⟨g0, 0, none⟩) ∧ (own g0).isSome = true ∧ ∃ cs e, w.heap[g0]? = some (.cells cs e (0, 0)) ∧ Rd w (fun g => own g = none ∧ nw g) a.1 x cs.toList
def ArgsIn (w : World) (ok nw : Nat → Prop) (own : Nat → Option Nat) (g0 : Nat) (pm : PM) : Nat → (ps : List (Ty × Bool)) → Args ps → List Value → Value → Prop
  | 0, a :: l, x, vs, u => ∃ vs', vs = u :: vs' ∧ SpIn w ok nw own g0 pm a x.1 u ∧ ArgsRd w ok l x.2 vs'
  | i + 1, a :: l, x, vs, u => ∃ v vs', vs = v :: vs' ∧ ValRd w ok a x.1 v ∧ ArgsIn w ok nw own g0 pm i l x.2 vs' u
  | _, [], _, _, _ => False
structure Handed (w : World) (B : Nat → Prop) (ok nw : Nat → Prop) (own : Nat → Option Nat) : Prop where
  hnew : ∀ g, w.heap.size ≤ g → nw g
  hown : ∀ g j, own g = some j → nw g ∧ g < w.heap.size ∧ B g
  hok : ∀ g, ok g → own g = none
def Res2 (con : Con2) (w w' : World) (ok nw : Nat → Prop) (own : Nat → Option Nat) (g0 : Nat) (u : Value) (r : Args con.rs × Args con.qs) (us : List Value) : Prop :=
  ∃ own' : Nat → Option Nat, (∀ g j, own' g = some j → w.heap.size ≤ g ∨ (own g).isSome = true) ∧
    (match con.pm with
      | .rd => True
      | .own _ => ResFr w' (fun g => own' g = none ∧ (nw g ∨ (m2 con.m = false ∧ ok g))) own' con.qs r.2 (nOf con.rs) (match con.qs with | [] => [] | _ => [u])
      | .box => (∃ j, own' g0 = some j ∧ nOf con.rs ≤ j) ∧ ∃ cs e, w'.heap[g0]? = some (.cells cs e (0, 0)) ∧ ArgsRd w' (fun g => own' g = none ∧ (nw g ∨ ok g)) con.qs r.2 [.agg cs]
      | .cur => (∃ j, own' g0 = some j ∧ nOf con.rs ≤ j) ∧ ∃ cs e, w'.heap[g0]? = some (.cells cs e (0, 0)) ∧ ArgsRd w' (fun g => own' g = none ∧ nw g) con.qs r.2 [.agg cs]) ∧
    (match con.m with
      | 0 => ArgsRd w' (fun g => own' g = none ∧ (nw g ∨ ok g)) con.rs r.1 us
      | 1 => ArgsRd w' (fun g => own' g = none ∧ nw g) con.rs r.1 us
      | 4 => ∃ b cs e, us = [.pointer (some ⟨b, 0, none⟩)] ∧ w.heap.size ≤ b ∧ (own' b).isSome = true ∧ w'.heap[b]? = some (.cells cs e (0, 0)) ∧ ArgsRd w' (fun g => own' g = none ∧ nw g) con.rs r.1 [.agg cs]
      | 5 => ∃ b cs e, us = [.pointer (some ⟨b, 0, none⟩)] ∧ w.heap.size ≤ b ∧ (own' b).isSome = true ∧ w'.heap[b]? = some (.cells cs e (0, 0)) ∧ ArgsRd w' (fun g => own' g = none ∧ (nw g ∨ ok g)) con.rs r.1 [.agg cs]
      | _ => ResFr w' (fun g => own' g = none ∧ (nw g ∨ (m2 con.m = false ∧ ok g))) own' con.rs r.1 0 us)
def QsOk (con : Con2) : Prop := con.qs = [] ∨ ∃ p, con.qs = [p] ∧ nth? con.ps con.i = some p
/-- A search with a function literal, in every world. -/
def IdxIn (P : Program) (f : FuncId) (i : Idx) (W : World) : Prop :=
  ∀ (xs : List i.a.1.D) (y : i.q.D) (s : Value) (B : Nat) (cs : Array Value) (e e' : TypeId), Rd W (fun _ => True) (.sl e' i.a.1) xs [s] → W.heap[B]? = some (.cells cs e (0, 0)) → Rd W (fun _ => True) i.q y cs.toList →
    Calls P f #[s, .func (.func i.g) #[] #[.pointer (some ⟨B, 0, none⟩)]] W fun e w' => e = .returned (.int .i64 (idxL (fun x => i.p x y) xs 0)) ∧ Below W.heap.size W w'
/-- A row put into a row, in every world. -/
def InsIn (P : Program) (f : FuncId) (e : TypeId) (u : Ty) (W : World) : Prop :=
  ∀ (s v : Value) (n m i : Nat) (cs ds : List Value), W.ownsRow 0 e u.n s n cs → W.ownsRow 0 e u.n v m ds → (∀ g, s.ownBlock = some g → v.ownBlock ≠ some g) → 1 ≤ m → i ≤ n → n + m ≤ 1073741824 → (∀ u ∈ cs, u.oneCell' = true) → (∀ u ∈ ds, u.oneCell' = true) →
    Calls P f #[s, .int .i64 i, v] W fun e' w' => ∃ v', e' = .returned v' ∧ w'.ownsRow 0 e u.n v' (n + m) (cs.take (i * u.n) ++ ds ++ cs.drop (i * u.n)) ∧ W.grownBy w' s.ownBlock ∧ (v'.ownBlock = s.ownBlock ∨ ∀ g, v'.ownBlock = some g → W.heap.size ≤ g)
def DelIn (P : Program) (f : FuncId) (e : TypeId) (u : Ty) (W : World) : Prop :=
  ∀ (s : Value) (n i j : Nat) (cs : List Value), W.ownsRow 0 e u.n s n cs → i ≤ j → j ≤ n → (∀ u ∈ cs, u.oneCell' = true) →
    Calls P f #[s, .int .i64 i, .int .i64 j] W fun e' w' => ∃ v', e' = .returned v' ∧ w'.ownsRow 0 e u.n v' (i + (n - j)) (cs.take (i * u.n) ++ cs.drop (j * u.n)) ∧ W.grownBy w' s.ownBlock ∧ (v'.ownBlock = s.ownBlock ∨ ∀ g, v'.ownBlock = some g → W.heap.size ≤ g)
def ConAt2 (P : Program) (w0 : Root) (f : FuncId) (con : Con2) : Prop :=
  FnOk P f ∧ QsOk con ∧
  ∀ (x : Args con.ps) (r : Args con.rs × Args con.qs), con.g x = some r → ∀ (w : World), Keeps w0.fr w0.w w → ∀ (ok nw : Nat → Prop) (own : Nat → Option Nat) (g0 : Nat) (vs : List Value) (u : Value),
    Handed w (fun g => w0.w.heap.size ≤ g ∨ w0.fr g) ok nw own → ArgsIn w ok nw own g0 con.pm con.i con.ps x vs u →
    Calls P f vs.toArray w fun e w' => ∃ us, e = .returned (retVal us) ∧ Res2 con w w' ok nw own g0 u r us ∧ Keeps (fun g => (own g).isSome = true) w w'
def ConOk2 (P : Program) (T : Tab) (f : FuncId) (con : Con2) : Prop :=
  FnOk P f ∧ QsOk con ∧
  ∀ (x : Args con.ps) (r : Args con.rs × Args con.qs), con.g x = some r → ∀ (w : World), T.p w → ∀ (ok nw : Nat → Prop) (own : Nat → Option Nat) (g0 : Nat) (vs : List Value) (u : Value),
    Handed w (fun g => ¬ T.bl g) ok nw own → ArgsIn w ok nw own g0 con.pm con.i con.ps x vs u →
    Calls P f vs.toArray w fun e w' => ∃ us, e = .returned (retVal us) ∧ Res2 con w w' ok nw own g0 u r us ∧ Keeps (fun g => (own g).isSome = true) w w'
/-! ### A function that tells what became of what it was handed -/
def selA (con : Sel) : Con2 := ⟨con.ps, con.i, .own true, [con.a, con.b], 2, [], fun _ => none⟩
def selB (con : Sel) : Con2 := ⟨con.ps, con.i, .own true, [con.b], 2, [con.q], fun _ => none⟩
def ResS (con : Sel) (w w' : World) (ok nw : Nat → Prop) (own : Nat → Option Nat) (g0 : Nat) (u : Value) (r : con.a.1.D × con.b.1.D × con.q.1.D) (us : List Value) : Prop :=
  ∃ va vb, us = [va, vb] ∧ (match doneD con.b.1 r.2.1 with
    | true => Res2 (selA con) w w' ok nw own g0 u ((r.1, (r.2.1, ())), ()) [va, vb]
    | false => Res2 (selB con) w w' ok nw own g0 u ((r.2.1, ()), (r.2.2, ())) [vb])
def ConAtS (P : Program) (w0 : Root) (f : FuncId) (con : Sel) : Prop :=
  FnOk P f ∧ nth? con.ps con.i = some con.q ∧
  ∀ (x : Args con.ps) (r : con.a.1.D × con.b.1.D × con.q.1.D), con.g x = some r → ∀ (w : World), Keeps w0.fr w0.w w → ∀ (ok nw : Nat → Prop) (own : Nat → Option Nat) (g0 : Nat) (vs : List Value) (u : Value),
    Handed w (fun g => w0.w.heap.size ≤ g ∨ w0.fr g) ok nw own → ArgsIn w ok nw own g0 (.own true) con.i con.ps x vs u →
    Calls P f vs.toArray w fun e w' => ∃ us, e = .returned (retVal us) ∧ ResS con w w' ok nw own g0 u r us ∧ Keeps (fun g => (own g).isSome = true) w w'
def ConOkS (P : Program) (T : Tab) (f : FuncId) (con : Sel) : Prop :=
  FnOk P f ∧ nth? con.ps con.i = some con.q ∧
  ∀ (x : Args con.ps) (r : con.a.1.D × con.b.1.D × con.q.1.D), con.g x = some r → ∀ (w : World), T.p w → ∀ (ok nw : Nat → Prop) (own : Nat → Option Nat) (g0 : Nat) (vs : List Value) (u : Value),
    Handed w (fun g => ¬ T.bl g) ok nw own → ArgsIn w ok nw own g0 (.own true) con.i con.ps x vs u →
    Calls P f vs.toArray w fun e w' => ∃ us, e = .returned (retVal us) ∧ ResS con w w' ok nw own g0 u r us ∧ Keeps (fun g => (own g).isSome = true) w w'
def AnyOk (P : Program) (T : Tab) (f : FuncId) : Any → Prop
  | .one c => ConOk P T f c
  | .two c => ConOk2 P T f c
  | .sel c => ConOkS P T f c
  | .idx i => FnOk P f ∧ ∀ W, T.p W → IdxIn P f i W
  | .ins e u => FnOk P f ∧ ∀ W, T.p W → InsIn P f e u W
  | .del e u => FnOk P f ∧ ∀ W, T.p W → DelIn P f e u W
def AnyAt (P : Program) (w0 : Root) (f : FuncId) : Any → Prop
  | .one c => ConAt P w0 f c
  | .two c => ConAt2 P w0 f c
  | .sel c => ConAtS P w0 f c
  | .idx i => FnOk P f ∧ ∀ W, Keeps w0.fr w0.w W → IdxIn P f i W
  | .ins e u => FnOk P f ∧ ∀ W, Keeps w0.fr w0.w W → InsIn P f e u W
  | .del e u => FnOk P f ∧ ∀ W, Keeps w0.fr w0.w W → DelIn P f e u W
theorem ConOk.at {P : Program} {T : Tab} {f : FuncId} {con : Con} (h : ConOk P T f con) {w0 : Root} (hT : T.p w0.w) (hf : ∀ b, w0.fr b → ¬ T.bl b) : ConAt P w0 f con :=
  ⟨h.1, fun x r hg w hB => h.2 x r hg w (T.keeps hT hf hB)⟩

theorem ConOk2.at {P : Program} {T : Tab} {f : FuncId} {con : Con2} (h : ConOk2 P T f con) {w0 : Root} (hT : T.p w0.w) (hf : ∀ b, w0.fr b → ¬ T.bl b) : ConAt2 P w0 f con :=
  ⟨h.1, h.2.1, fun x r hg w hB ok nw own g0 vs u hh hin => h.2.2 x r hg w (T.keeps hT hf hB) ok nw own g0 vs u ⟨hh.hnew, fun g j hj => ⟨(hh.hown g j hj).1, (hh.hown g j hj).2.1, fun hb => by
    rcases (hh.hown g j hj).2.2 with h1 | h1
    · have := T.lt _ hT g hb
      omega
    · exact hf g h1 hb⟩, hh.hok⟩ hin⟩
theorem ConOkS.at {P : Program} {T : Tab} {f : FuncId} {con : Sel} (h : ConOkS P T f con) {w0 : Root} (hT : T.p w0.w) (hf : ∀ b, w0.fr b → ¬ T.bl b) : ConAtS P w0 f con :=
  ⟨h.1, h.2.1, fun x r hg w hB ok nw own g0 vs u hh hin => h.2.2 x r hg w (T.keeps hT hf hB) ok nw own g0 vs u ⟨hh.hnew, fun g j hj => ⟨(hh.hown g j hj).1, (hh.hown g j hj).2.1, fun hb => by
    rcases (hh.hown g j hj).2.2 with h1 | h1
    · have := T.lt _ hT g hb
      omega
    · exact hf g h1 hb⟩, hh.hok⟩ hin⟩
theorem AnyOk.at {P : Program} {T : Tab} {f : FuncId} {con : Any} (h : AnyOk P T f con) {w0 : Root} (hT : T.p w0.w) (hf : ∀ b, w0.fr b → ¬ T.bl b) : AnyAt P w0 f con := by
  cases con with
  | one c => exact ConOk.at h hT hf
  | two c => exact ConOk2.at h hT hf
  | sel c => exact ConOkS.at h hT hf
  | idx i => exact ⟨h.1, fun W hK => h.2 W (T.keeps hT hf hK)⟩
  | ins e u => exact ⟨h.1, fun W hK => h.2 W (T.keeps hT hf hK)⟩
  | del e u => exact ⟨h.1, fun W hK => h.2 W (T.keeps hT hf hK)⟩

section
variable {P : Program} {w0 : Root} {w : World} {G : Gh} {st : St} {a : Act} {α : Type} {k : St → Option α} {r : α} {K : Act → World → Prop} {Q : Exit → Act → World → Prop} {o : Oper}

/-! ### The arguments -/
theorem imV_rd (h : Inv w0 G st a w) {ok : Nat → Prop} {p : Ty × Bool} {x : CV} {u : Value} {y : p.1.D} (hr : RelCV G w st.bx st.bl x u)
    (hc : ∀ t c v xs, c ∈ x.cells → RelC G w st.bx st.bl c v → slData st t c = some xs → ∀ e, Rd w ok (.sl e t) xs [v]) (hi : imV st p x = some y) : ValRd w ok p y u := by
  unfold imV at hi
  split at hi
  · rename_i l hb
    split at hi
    · rename_i z hz
      cases hi
      obtain ⟨cs, hv, hrel⟩ := hr
      obtain ⟨vs1, vs2, he, hrd, hr2, _⟩ := im_rd (ok := ok) hc hrel hz
      cases vs2 with
      | cons _ _ => exact hr2.elim
      | nil =>
        rw [List.append_nil] at he
        refine ⟨vs1, hrd, ?_⟩
        rw [hb, hv, ← he]
    · cases hi
  · rename_i c hb
    split at hi
    · rename_i z hz
      cases hi
      obtain ⟨vs1, vs2, he, hrd, hr2, _⟩ := im_rd (ok := ok) (l := [c]) (vs := [u]) hc ⟨hr, trivial⟩ hz
      cases vs2 with
      | cons _ _ => exact hr2.elim
      | nil =>
        rw [List.append_nil] at he
        refine ⟨vs1, hrd, ?_⟩
        rw [hb, ← he]
        rfl
    · cases hi
  · cases hi

theorem im1_rd (h : Inv w0 G st a w) {ok : Nat → Prop} {p : Ty × Bool} {x : Operand} {y : p.1.D}
    (hc : ∀ t c v xs, c ∈ (st.evc x).cells → RelC G w st.bx st.bl c v → slData st t c = some xs → ∀ e, Rd w ok (.sl e t) xs [v]) (hi : im1 st p x = some y) : ValRd w ok p y (a.eval x) :=
  imV_rd h (h.evc x) hc hi

theorem imVs_rd (h : Inv w0 G st a w) {ok : Nat → Prop} : ∀ (ps : List (Ty × Bool)) (cs : List CV) (vs : List Value) (x : Args ps), All2 (RelCV G w st.bx st.bl) cs vs →
    (∀ t c v xs, c ∈ cvCells cs → RelC G w st.bx st.bl c v → slData st t c = some xs → ∀ e, Rd w ok (.sl e t) xs [v]) → imVs st ps cs = some x → ArgsRd w ok ps x vs
  | [], [], [], x, _, _, hi => rfl
  | [], [], _ :: _, _, h, _, _ => h.elim
  | _, _ :: _, [], _, h, _, _ => h.elim
  | [], _ :: _, _ :: _, x, _, _, hi => by simp [imVs] at hi
  | _ :: _, [], _, x, _, _, hi => by simp [imVs] at hi
  | p :: ps, y :: os, v :: vs, x, hr, hc, hi => by
    simp only [imVs] at hi
    split at hi
    · rename_i z hz
      split at hi
      · rename_i zs hzs
        cases hi
        exact ⟨v, vs, rfl, imV_rd h hr.1 (fun t c v xs hm => hc t c v xs (by simp [cvCells, hm])) hz, imVs_rd h ps os vs zs hr.2 (fun t c v xs hm => hc t c v xs (by simp [cvCells, hm])) hzs⟩
      · cases hi
    · cases hi

theorem imArgs_rd (h : Inv w0 G st a w) {ok : Nat → Prop} : ∀ (ps : List (Ty × Bool)) (os : List Operand) (x : Args ps),
    (∀ t c v xs, c ∈ callArgs st os → RelC G w st.bx st.bl c v → slData st t c = some xs → ∀ e, Rd w ok (.sl e t) xs [v]) → imArgs st ps os = some x → ArgsRd w ok ps x (os.map a.eval)
  | [], [], x, _, hi => rfl
  | [], _ :: _, x, _, hi => by simp [imArgs] at hi
  | _ :: _, [], x, _, hi => by simp [imArgs] at hi
  | p :: ps, y :: os, x, hc, hi => by
    simp only [imArgs] at hi
    split at hi
    · rename_i z hz
      split at hi
      · rename_i zs hzs
        cases hi
        exact ⟨a.eval y, os.map a.eval, rfl, im1_rd h (fun t c v xs hm => hc t c v xs (by simp [callArgs, hm])) hz, imArgs_rd h ps os zs (fun t c v xs hm => hc t c v xs (by simp [callArgs, hm])) hzs⟩
      · cases hi
    · cases hi

/-- Whatever is known may be read by a callee. -/
theorem any_rd (h : Inv w0 G st a w) : ∀ t c v xs, RelC G w st.bx st.bl c v → slData st t c = some xs → ∀ e, Rd w (fun _ => True) (.sl e t) xs [v] :=
  fun t c v xs hr hd => slData_rd h hr hd (fun _ _ _ _ _ => ⟨fun _ _ => trivial, fun _ _ _ => trivial⟩) (fun _ _ _ _ _ _ _ => trivial)

/-! ### What comes back -/
structure RowFr (w : World) (okE : Nat → Prop) (f : Bool) (own : Nat → Option Nat) (id : Nat) (z : Nat × Blk × Value) : Prop where
  wr : z.2.1.w = true
  nf : z.2.1.f = f
  pos : 0 < z.2.1.t.n
  row : ∃ rows, w.ownsRow 0 z.2.1.e z.2.1.t.n z.2.2 z.2.1.xs.length rows ∧ ElsIn w okE z.2.1.t rows z.2.1.xs
  blk : ∀ g, z.2.2.ownBlock = some g → own g = some (z.1 - id * 64)

def CellFr (L : List (Nat × Blk × Value)) : AC → Value → Prop
  | .int k n, v => v = .int k n
  | .bool b, v => v = .bool b
  | .str s, v => v = .string s
  | .own i none, v => ∃ b, (i, b, v) ∈ L
  | _, _ => False

theorem CellFr.weak {L L' : List (Nat × Blk × Value)} (h : ∀ z ∈ L, z ∈ L') : ∀ {c : AC} {v : Value}, CellFr L c v → CellFr L' c v
  | .int _ _, _, hc => hc
  | .bool _, _, hc => hc
  | .str _, _, hc => hc
  | .own i none, v, ⟨b, hb⟩ => ⟨b, h _ hb⟩
  | .own i (some l), v, hc => hc.elim
  | .none, _, hc => hc.elim
  | .nil, _, hc => hc.elim
  | .ro _ _ _ _, _, hc => hc.elim
  | .ptr _ _, _, hc => hc.elim
  | .eown _ _ _, _, hc => hc.elim
  | .ero _ _ _ _, _, hc => hc.elim
  | .fnp _ _, _, hc => hc.elim

structure Fr (w : World) (okE : Nat → Prop) (f : Bool) (own : Nat → Option Nat) (id lo hi : Nat) (q : List (Nat × Option Blk)) (L : List (Nat × Blk × Value)) : Prop where
  q : q = L.map fun z => (z.1, some z.2.1)
  rows : ∀ z ∈ L, id * 64 + lo ≤ z.1 ∧ z.1 < id * 64 + hi ∧ RowFr w okE f own id z
  uniq : ∀ z ∈ L, ∀ z' ∈ L, z.1 = z'.1 → z = z'

theorem Fr.nil {w : World} {okE : Nat → Prop} {f : Bool} {own : Nat → Option Nat} {id lo hi : Nat} : Fr w okE f own id lo hi [] [] := ⟨rfl, fun z hz => by simp at hz, fun z hz => by simp at hz⟩
theorem Fr.app {w : World} {okE : Nat → Prop} {f : Bool} {own : Nat → Option Nat} {id lo mid hi : Nat} {q q' : List (Nat × Option Blk)} {L L' : List (Nat × Blk × Value)} (h : Fr w okE f own id lo mid q L) (h' : Fr w okE f own id mid hi q' L') (h1 : lo ≤ mid) (h2 : mid ≤ hi) :
    Fr w okE f own id lo hi (q ++ q') (L ++ L') := by
  refine ⟨by rw [h.q, h'.q, List.map_append], fun z hz => ?_, fun z hz z' hz' he => ?_⟩
  · rcases List.mem_append.1 hz with hz | hz
    · obtain ⟨h3, h4, h5⟩ := h.rows z hz
      exact ⟨h3, by omega, h5⟩
    · obtain ⟨h3, h4, h5⟩ := h'.rows z hz
      exact ⟨by omega, h4, h5⟩
  · rcases List.mem_append.1 hz with hz | hz <;> rcases List.mem_append.1 hz' with hz' | hz'
    · exact h.uniq z hz z' hz' he
    · have := (h.rows z hz).2.1
      have := (h'.rows z' hz').1
      omega
    · have := (h'.rows z hz).1
      have := (h.rows z' hz').2.1
      omega
    · exact h'.uniq z hz z' hz' he

theorem exR_fr {w : World} {okE : Nat → Prop} {f : Bool} {own : Nat → Option Nat} {id : Nat} : ∀ {t : Ty} {x : t.D} {j : Nat} {cs : List Value}, FrC w okE own t x j cs →
    ∃ L, Fr w okE f own id j (j + t.n) (exR id f t x j).2 L ∧ All2 (CellFr L) (exR id f t x j).1 cs
  | .int k, x, j, cs, h => ⟨[], .nil, by rw [show cs = _ from h]; exact ⟨rfl, trivial⟩⟩
  | .bool, x, j, cs, h => ⟨[], .nil, by rw [show cs = _ from h]; exact ⟨rfl, trivial⟩⟩
  | .str, x, j, cs, h => ⟨[], .nil, by rw [show cs = _ from h]; exact ⟨rfl, trivial⟩⟩
  | .unit, x, j, cs, h => ⟨[], .nil, by rw [show cs = _ from h]; trivial⟩
  | .pair a b, x, j, cs, h => by
    obtain ⟨c1, c2, rfl, h1, h2⟩ := h
    obtain ⟨L1, h3, h4⟩ := exR_fr (id := id) h1
    obtain ⟨L2, h5, h6⟩ := exR_fr (id := id) h2
    refine ⟨L1 ++ L2, ?_, All2.app (h4.imp fun _ _ => CellFr.weak fun z hz => by simp [hz]) (h6.imp fun _ _ => CellFr.weak fun z hz => by simp [hz])⟩
    have := h3.app h5 (by omega) (by omega)
    rw [Nat.add_assoc] at this
    exact this
  | .sl e t, xs, j, cs, h => by
    obtain ⟨v, rows, rfl, hp, ho, hb, he⟩ := h
    refine ⟨[(id * 64 + j, ⟨e, t, xs, f, true⟩, v)], ⟨rfl, fun z hz => ?_, fun z hz z' hz' _ => ?_⟩, ⟨⟨e, t, xs, f, true⟩, by simp⟩, trivial⟩
    · simp at hz
      subst hz
      refine ⟨Nat.le_refl _, by simp [Ty.n], rfl, rfl, hp, ⟨rows, ho, he⟩, fun g hg => ?_⟩
      rw [hb g hg]
      congr 1
      omega
    · simp at hz hz'
      rw [hz, hz']

def CVFr (L : List (Nat × Blk × Value)) : CV → Value → Prop
  | .c x, v => CellFr L x v
  | .agg l, v => ∃ cs, v = .agg cs ∧ All2 (CellFr L) l cs.toList

theorem CVFr.weak {L L' : List (Nat × Blk × Value)} (h : ∀ z ∈ L, z ∈ L') {c : CV} {v : Value} (hc : CVFr L c v) : CVFr L' c v := by
  cases c with
  | c x => exact CellFr.weak h hc
  | agg l =>
    obtain ⟨cs, he, hr⟩ := hc
    exact ⟨cs, he, hr.imp fun _ _ => CellFr.weak h⟩

theorem ex1_fr {w : World} {okE : Nat → Prop} {f : Bool} {own : Nat → Option Nat} {id : Nat} {p : Ty × Bool} {x : p.1.D} {j : Nat} {v : Value} (h : ValFr w okE own p x j v) (hs : p.2 = true ∨ p.1.n = 1) :
    ∃ L, Fr w okE f own id j (j + p.1.n) (ex1 id f p x j).2 L ∧ CVFr L (ex1 id f p x j).1 v := by
  obtain ⟨cs, h1, h2⟩ := h
  obtain ⟨L, h3, h4⟩ := exR_fr (id := id) h1
  refine ⟨L, h3, ?_⟩
  obtain ⟨t, ag⟩ := p
  cases ag with
  | true => exact ⟨cs.toArray, h2, h4⟩
  | false =>
    have hn : t.n = 1 := by simpa using hs
    have : cs.length = 1 := by
      have hl : ∀ {t : Ty} {x : t.D} {j : Nat} {cs : List Value}, FrC w okE own t x j cs → cs.length = t.n := by
        intro t
        induction t with
        | int k => intro x j cs h; rw [show cs = _ from h]; rfl
        | bool => intro x j cs h; rw [show cs = _ from h]; rfl
        | str => intro x j cs h; rw [show cs = _ from h]; rfl
        | unit => intro x j cs h; rw [show cs = _ from h]; rfl
        | pair a b iha ihb =>
          intro x j cs h
          obtain ⟨c1, c2, rfl, h1, h2⟩ := h
          simp [Ty.n, iha h1, ihb h2]
        | sl e t _ =>
          intro x j cs h
          obtain ⟨v, rows, rfl, _⟩ := h
          rfl
      rw [hl h1]
      exact hn
    obtain ⟨u, rfl⟩ : ∃ u, cs = [u] := by
      cases cs with
      | nil => simp at this
      | cons u cs =>
        cases cs with
        | nil => exact ⟨u, rfl⟩
        | cons _ _ => simp at this
    show CellFr L (match (exR id f t x j).1 with | [c] => c | _ => .none) v
    rw [show v = u from h2]
    revert h4
    generalize (exR id f t x j).1 = l
    intro h4
    cases l with
    | nil => exact h4.elim
    | cons c l =>
      cases l with
      | nil => exact h4.1
      | cons _ _ => exact h4.2.elim

theorem exRs_fr {w : World} {okE : Nat → Prop} {f : Bool} {own : Nat → Option Nat} {id : Nat} : ∀ {rs : List (Ty × Bool)} {x : Args rs} {j : Nat} {vs : List Value}, flatOk rs = true → ResFr w okE own rs x j vs →
    ∃ L, Fr w okE f own id j (j + nOf rs) (exRs id f rs x j).2 L ∧ All2 (CVFr L) (exRs id f rs x j).1 vs
  | [], x, j, vs, _, h => ⟨[], .nil, by rw [show vs = [] from h]; trivial⟩
  | a :: l, x, j, vs, hf, h => by
    obtain ⟨v, vs', rfl, h1, h2⟩ := h
    simp only [flatOk, Bool.and_eq_true, Bool.or_eq_true] at hf
    obtain ⟨L1, h3, h4⟩ := ex1_fr (id := id) (f := f) h1 (hf.1.imp_right beq_nat)
    obtain ⟨L2, h5, h6⟩ := exRs_fr (id := id) (f := f) hf.2 h2
    have h7 := h3.app h5 (by omega) (by omega)
    rw [Nat.add_assoc] at h7
    exact ⟨L1 ++ L2, h7, h4.weak fun z hz => by simp [hz], h6.imp fun _ _ => CVFr.weak fun z hz => by simp [hz]⟩

theorem look_map {L : List (Nat × Blk × Value)} {i : Nat} : ∀ {b : Blk}, look (L.map fun z => (z.1, some z.2.1)) i = some (some b) → ∃ v, (i, b, v) ∈ L := by
  induction L with
  | nil => intro b h; simp [look] at h
  | cons z L ih =>
    intro b h
    rw [List.map_cons, look_cons] at h
    by_cases hi : z.1 = i
    · simp only [hi, if_true] at h
      cases h
      refine ⟨z.2.2, ?_⟩
      rw [← hi]
      simp
    · simp only [hi, if_false] at h
      obtain ⟨v, hv⟩ := ih h
      exact ⟨v, by simp [hv]⟩
theorem look_map_mem {L : List (Nat × Blk × Value)} {z : Nat × Blk × Value} (h : z ∈ L) : (look (L.map fun z => (z.1, some z.2.1)) z.1).isSome = true := by
  induction L with
  | nil => simp at h
  | cons y L ih =>
    rw [List.map_cons, look_cons]
    by_cases hi : y.1 = z.1
    · simp [hi]
    · simp only [hi, if_false]
      rcases List.mem_cons.1 h with rfl | h
      · exact absurd rfl hi
      · exact ih h

def hvL (L : List (Nat × Blk × Value)) (i : Nat) : Value := match L.find? (·.1 == i) with | some z => z.2.2 | none => undef
theorem hvL_mem {L : List (Nat × Blk × Value)} (hu : ∀ z ∈ L, ∀ z' ∈ L, z.1 = z'.1 → z = z') {z : Nat × Blk × Value} (h : z ∈ L) : hvL L z.1 = z.2.2 := by
  unfold hvL
  cases hf : L.find? (·.1 == z.1) with
  | none =>
    have := List.find?_eq_none.1 hf z h
    simp at this
  | some y =>
    have h1 := List.find?_some hf
    have h2 := List.mem_of_find?_eq_some hf
    have := hu y h2 z h (by simpa using h1)
    rw [this]

theorem freshNames_ne : ∀ {q : List (Nat × Option Blk)}, freshNames q st = true → ∀ id, (look q id).isSome = true → look st.bl id = none
  | [], _, id, h => by simp [look] at h
  | (i, b) :: q, hf, id, h => by
    simp only [freshNames, Bool.and_eq_true] at hf
    rw [look_cons] at h
    by_cases hi : i = id
    · subst hi
      cases hl : look st.bl i with
      | none => rfl
      | some x => rw [hl] at hf; simp at hf
    · simp only [hi, if_false] at h
      exact freshNames_ne hf.2 id h

theorem ret_rel {R : CV → Value → Prop} {G : Gh} {w : World} {bx : List (Nat × List AC)} {bl : List (Nat × Option Blk)} {cs : List CV} {vs : List Value} (h : All2 (RelCV G w bx bl) cs vs) :
    RelAV G w bx bl (retAV cs) (retVal vs) := by
  cases cs with
  | nil =>
    cases vs with
    | nil => exact ⟨_, rfl, trivial⟩
    | cons _ _ => exact h.elim
  | cons c cs =>
    cases vs with
    | nil => exact h.elim
    | cons v vs =>
      cases cs with
      | nil =>
        cases vs with
        | nil => exact h.1
        | cons _ _ => exact h.2.elim
      | cons c' cs =>
        cases vs with
        | nil => exact h.2.elim
        | cons v' vs => exact ⟨_, rfl, h⟩

theorem exF_rel {f : Bool} {G : Gh} {w : World} {bx : List (Nat × List AC)} {bl : List (Nat × Option Blk)} : ∀ {rs : List (Ty × Bool)} {x : Args rs} {vs : List Value}, flatOk rs = true → ArgsRd w (RO G f) rs x vs →
    All2 (RelCV G w bx bl) (exF f rs x) vs
  | [], x, vs, _, h => by rw [show vs = [] from h]; trivial
  | a :: l, x, vs, hf, h => by
    obtain ⟨v, vs', rfl, ⟨cs, h1, h2⟩, h3⟩ := h
    simp only [flatOk, Bool.and_eq_true, Bool.or_eq_true] at hf
    have h4 := exF_rel (bx := bx) (bl := bl) hf.2 h3
    have hrel := ex_rel (bx := bx) (bl := bl) h1
    refine ⟨?_, h4⟩
    obtain ⟨t, ag⟩ := a
    cases ag with
    | true => exact ⟨cs.toArray, h2, hrel⟩
    | false =>
      have hn : t.n = 1 := by
        rcases hf.1 with h | h
        · cases h
        · exact beq_nat h
      obtain ⟨u, rfl⟩ := one_cell h1 hn
      show RelC G w bx bl (match ex f t x.1 with | [c] => c | _ => .none) v
      rw [show v = u from h2]
      revert hrel
      generalize ex f t x.1 = l'
      intro hrel
      cases l' with
      | nil => exact hrel.elim
      | cons c l' =>
        cases l' with
        | nil => exact hrel.1
        | cons _ _ => exact hrel.2.elim

theorem args_weak {w : World} {ok ok' : Nat → Prop} (h : ∀ g, ok g → ok' g) : ∀ {ps : List (Ty × Bool)} {x : Args ps} {vs : List Value}, ArgsRd w ok ps x vs → ArgsRd w ok' ps x vs
  | [], _, _, hr => hr
  | a :: l, x, vs, hr => by
    obtain ⟨v, vs', rfl, ⟨cs, h1, h2⟩, h3⟩ := hr
    exact ⟨v, vs', rfl, ⟨cs, rd_weak h h1, h2⟩, args_weak h h3⟩

/-- Behind a call: rows of the caller's own. -/
theorem back_own {rs : List (Ty × Bool)} (hflat : flatOk rs = true) {w' : World} (h : Inv w0 G st a w) (hB : Below w.heap.size w w') {y : Args rs} {us : List Value}
    (hres : ∃ own : Nat → Option Nat, (∀ g j, own g = some j → w.heap.size ≤ g) ∧ ResFr w' (fun g => w.heap.size ≤ g ∧ own g = none) own rs y 0 us) {d : Tmp} (hc2 : Nat.blt d st.nt = true) (hc1 : freshNames (exRs d true rs y 0).2 st = true)
    (hr : (k { (st.put d (retAV (exRs d true rs y 0).1)) with bl := (exRs d true rs y 0).2 ++ st.bl }) = some r) (hK : Goes w0 k r K) :
    K (a.put (some d) (retVal us)) w' := by
  have hg : w.grownBy w' none := ⟨hB.os, hB.tape, hB.output, hB.size, fun k hk _ => hB.block k hk⟩
  · obtain ⟨own, hown, hfr⟩ := hres
    obtain ⟨L, hF, hcv⟩ := exRs_fr (id := d) (f := true) hflat hfr
    have hq := hF.q
    -- which new block is whose
    let nw : Nat → Option Nat := fun g => match own g with
      | some j => match L.find? (·.1 == d * 64 + j) with
        | some z => if z.2.2.ownBlock = some g then some z.1 else none
        | none => none
      | none => none
    have hnw : ∀ g id, nw g = some id → ∃ z ∈ L, z.1 = id ∧ z.2.2.ownBlock = some g := by
      intro g id hn
      simp only [nw] at hn
      split at hn
      · split at hn
        · rename_i z hz
          split at hn
          · cases hn
            exact ⟨z, List.mem_of_find?_eq_some hz, rfl, by assumption⟩
          · cases hn
        · cases hn
      · cases hn
    have hnwz : ∀ z ∈ L, ∀ g, z.2.2.ownBlock = some g → nw g = some z.1 := by
      intro z hz g hg
      have hb := (hF.rows z hz).2.2.blk g hg
      have hlo := (hF.rows z hz).1
      simp only [nw, hb]
      have hj : d * 64 + (z.1 - d * 64) = z.1 := Nat.add_sub_of_le hlo
      rw [hj]
      cases hf : L.find? (·.1 == z.1) with
      | none =>
        have := List.find?_eq_none.1 hf z hz
        simp at this
      | some y =>
        have h1 := List.find?_some hf
        have h2 := List.mem_of_find?_eq_some hf
        have := hF.uniq y h2 z hz (by simpa using h1)
        subst this
        simp [hg]
    have hnwn : ∀ g, own g = none → nw g = none := by
      intro g hg
      simp only [nw, hg]
    have hxt := h.grow_ext none hg (fun g hg => by cases hg) (exRs d true rs y 0).2 (hvL L) nw (fun g id hn => by
      obtain ⟨z, hz, _, hzb⟩ := hnw g id hn
      exact .inl (hown g _ ((hF.rows z hz).2.2.blk g hzb)))
    have hro : ∀ g, w.heap.size ≤ g ∧ own g = none → RO (G.grow none (exRs d true rs y 0).2 (hvL L) nw) true g := by
      intro g hg
      refine ⟨?_, .inl <| h.newNw hg.1⟩
      have : G.own g = none := by
        cases ho : G.own g with
        | none => rfl
        | some k => have := (h.own _ _ ho).2.1; omega
      simp [Gh.grow, hnwn g hg.2, this]
    obtain ⟨hinv, _, hst⟩ := h.grow none hg (fun g hg => by cases hg) (exRs d true rs y 0).2 (hvL L) nw (fun id hs => freshNames_ne hc1 id hs)
      (fun g id hn => by
        obtain ⟨z, hz, rfl, hzb⟩ := hnw g id hn
        obtain ⟨h1, h2, h3⟩ := hF.rows z hz
        refine ⟨by rw [hq]; exact look_map_mem hz, by rw [hvL_mem hF.uniq hz]; exact hzb, ?_, .inl (hown g _ (h3.blk g hzb))⟩
        obtain ⟨rows, ho, _⟩ := h3.row
        rcases ho.2 with ⟨he, _⟩ | ⟨g', cap, cur, he, _, hh, _⟩
        · rw [he] at hzb; simp [Value.ownBlock] at hzb
        · rw [he] at hzb
          have : g' = g := by simpa [Value.ownBlock] using hzb
          subst this
          exact (Array.getElem?_eq_some_iff.1 hh).1)
      (fun id b hb => by
        have hb0 := hb
        rw [hq] at hb
        obtain ⟨v, hv⟩ := look_map hb
        obtain ⟨h1, h2, h3⟩ := hF.rows _ hv
        have hhv : (G.grow none (exRs d true rs y 0).2 (hvL L) nw).hv id = v := by
          have : (look (exRs d true rs y 0).2 id).isSome = true := by rw [hb0]; rfl
          simp only [Gh.grow, this, if_true]
          exact hvL_mem hF.uniq hv
        obtain ⟨rows, ho, hels⟩ := h3.row
        refine ⟨fun _ => ⟨rows, ?_, ?_, ?_⟩, fun hw => ?_, h3.pos⟩
        · rw [hhv]
          refine ⟨ho.1, ?_⟩
          rcases ho.2 with h4 | ⟨g', cap, cur, he, hb', r⟩
          · exact .inl h4
          · exact .inr ⟨g', cap, cur, he, Nat.zero_le _, r⟩
        · rw [hhv]
          intro g hg
          have := hnwz _ hv g hg
          simp [Gh.grow, this]
        · have hf : b.f = true := h3.nf
          rw [hf]
          exact els_weak hro hels
        · have := h3.wr
          rw [show b.w = true from this] at hw
          cases hw)
    have hrel : All2 (RelCV (G.grow none (exRs d true rs y 0).2 (hvL L) nw) w' st.bx ((exRs d true rs y 0).2 ++ st.bl)) (exRs d true rs y 0).1 us := by
      have cell : ∀ c v, CellFr L c v → RelC (G.grow none (exRs d true rs y 0).2 (hvL L) nw) w' st.bx ((exRs d true rs y 0).2 ++ st.bl) c v := by
        intro c v hc
        cases c with
        | own i len =>
          cases len with
          | some l => exact hc.elim
          | none =>
            obtain ⟨b, hb⟩ := hc
            have hs := look_map_mem hb
            rw [← hq] at hs
            have hhv : (G.grow none (exRs d true rs y 0).2 (hvL L) nw).hv i = v := by
              simp only [Gh.grow, hs, if_true]
              exact hvL_mem hF.uniq hb
            refine ⟨?_, ?_, hhv.symm⟩
            · rw [look_append]
              cases hl : look (exRs d true rs y 0).2 i with
              | none => rw [hl] at hs; cases hs
              | some x => rfl
            · rw [hhv]
              obtain ⟨rows, ho, _⟩ := (hF.rows _ hb).2.2.row
              rcases ho.2 with ⟨he, _⟩ | ⟨g', cap, cur, he, _⟩
              · exact ⟨_, _, _, he⟩
              · exact ⟨_, _, _, he⟩
        | int k n => exact hc
        | bool b => exact hc
        | str s => exact hc
        | _ => exact hc.elim
      refine hcv.imp fun c v hc => ?_
      cases c with
      | c x => exact cell x v hc
      | agg l =>
        obtain ⟨cs, he, hl⟩ := hc
        exact ⟨cs, he, hl.imp cell⟩
    have h2 := hinv.put d (blt_lt hc2) (ret_rel (R := fun _ _ => True) hrel)
    exact hK _ _ _ _ h2 hr
/-- Behind a call: what is read only. -/
theorem back_ro {rs : List (Ty × Bool)} (hflat : flatOk rs = true) {w' : World} (h : Inv w0 G st a w) (hB : Below w.heap.size w w') {y : Args rs} {us : List Value} {f : Bool} {ok : Nat → Prop}
    (hres : ArgsRd w' ok rs y us) (hok : ∀ g, ok g → w.heap.size ≤ g ∨ RO G f g) {d : Tmp} (hc2 : Nat.blt d st.nt = true)
    (hr : k (st.put d (retAV (exF f rs y))) = some r) (hK : Goes w0 k r K) :
    K (a.put (some d) (retVal us)) w' := by
  have hg : w.grownBy w' none := ⟨hB.os, hB.tape, hB.output, hB.size, fun k hk _ => hB.block k hk⟩
  obtain ⟨hinv, hxt, hst⟩ := h.grow none hg (fun g hg => by cases hg) [] G.hv (fun _ => none) (fun id hs => by simp [look] at hs) (fun g id hn => by cases hn) (fun id b hb => by simp [look] at hb)
  have hro : ∀ g, ok g → RO (G.grow none [] G.hv (fun _ => none)) f g := by
    intro g hg
    rcases hok g hg with hg | hg
    · refine ⟨?_, .inl <| h.newNw hg⟩
      have : G.own g = none := by
        cases ho : G.own g with
        | none => rfl
        | some k => have := (h.own _ _ ho).2.1; omega
      simp [Gh.grow, this]
    · exact ⟨by simp [Gh.grow, hg.1], hg.2⟩
  have h1 := exF_rel (G := G.grow none [] G.hv (fun _ => none)) (bx := st.bx) (bl := [] ++ st.bl) hflat (args_weak hro hres)
  have h3 := hinv.put d (blt_lt hc2) (ret_rel (R := fun _ _ => True) h1)
  exact hK _ _ _ _ h3 hr
/-! ### Rows handed on -/
theorem hasN_mem : ∀ {l : List Nat} {n : Nat}, hasN l n = true ↔ n ∈ l
  | [], n => by simp [hasN]
  | x :: l, n => by
    simp only [hasN]
    split
    · rename_i hb
      have := beq_nat hb
      subst this
      simp
    · rename_i hb
      have : n ≠ x := by rintro rfl; simp at hb
      rw [hasN_mem]
      simp [this]


def posOf : List AC → Nat → Nat → Option Nat
  | [], _, _ => none
  | .own i _ :: l, id, k => if i = id then some k else posOf l id (k + 1)
  | _ :: l, id, k => posOf l id (k + 1)
theorem posOf_at {id : Nat} {len : Option Int} {l : List AC} : ∀ {pre : List AC} {k : Nat}, (∀ len, AC.own id len ∉ pre) → posOf (pre ++ .own id len :: l) id k = some (k + pre.length)
  | [], k, _ => by simp [posOf]
  | c :: pre, k, h => by
    have h2 : ∀ len, AC.own id len ∉ pre := fun len hm => h len (by simp [hm])
    have ih := posOf_at (len := len) (l := l) (k := k + 1) h2
    have hs : posOf ((c :: pre) ++ .own id len :: l) id k = posOf (pre ++ .own id len :: l) id (k + 1) := by
      cases c with
      | own i ln =>
        have : i ≠ id := by rintro rfl; exact h ln (by simp)
        simp [posOf, this]
      | _ => rfl
    rw [hs, ih]
    simp
    omega

def ownOf (G : Gh) (all : List AC) (g : Nat) : Option Nat := match G.own g with
  | some (.bl id) => posOf all id 0
  | _ => none

theorem fr_of {m : Nat} (hm : m = 2 ∨ m = 3) {okE : Nat → Prop} (hE : ∀ g, RO G (m2 m) g → okE g) (h : Inv w0 G st a w) (all T : List AC) : ∀ {t : Ty} {pre L L' L'' : List AC} {seen : List Nat} {vs : List Value} {x : t.D}, all = pre ++ (L ++ T) → (∀ id len, AC.own id len ∈ pre → id ∈ seen) → resOk st m seen (L ++ T) = true →
    rowsOf st t L = some L'' → im st t L = some (x, L') → All2 (RelC G w st.bx st.bl) L vs →
    ∃ c1 vs1 vs2 seen', L = c1 ++ L' ∧ c1.length = t.n ∧ L'' = L' ∧ vs = vs1 ++ vs2 ∧ FrC w okE (ownOf G all) t x pre.length vs1 ∧ All2 (RelC G w st.bx st.bl) L' vs2 ∧ resOk st m seen' (L' ++ T) = true ∧ (∀ id len, AC.own id len ∈ pre ++ c1 → id ∈ seen')
  | .int k, pre, L, L', L'', seen, vs, x, hall, hpre, hok, hrow, hi, hrel => by
    cases L with
    | nil => simp [im] at hi
    | cons c L =>
      cases c with
      | int l n =>
        simp only [im] at hi
        cases vs with
        | nil => exact hrel.elim
        | cons v vs =>
          simp only [rowsOf] at hrow
          cases hrow
          have h1 : v = .int l n := hrel.1
          split at hi
          · cases hi
            have h2 := kbeq_eq (by assumption)
            refine ⟨[.int l x], [v], vs, seen, rfl, rfl, rfl, rfl, by rw [h1, h2]; rfl, hrel.2, hok, ?_⟩
            intro id len hm
            simp at hm
            exact hpre id len hm
          · cases hi
      | _ => simp [im] at hi
  | .bool, pre, L, L', L'', seen, vs, x, hall, hpre, hok, hrow, hi, hrel => by
    cases L with
    | nil => simp [im] at hi
    | cons c L =>
      cases c with
      | bool b =>
        simp only [im] at hi
        cases vs with
        | nil => exact hrel.elim
        | cons v vs =>
          simp only [rowsOf] at hrow
          cases hrow
          have h1 : v = .bool b := hrel.1
          cases hi
          refine ⟨[.bool x], [v], vs, seen, rfl, rfl, rfl, rfl, by rw [h1]; rfl, hrel.2, hok, ?_⟩
          intro id len hm
          simp at hm
          exact hpre id len hm
      | _ => simp [im] at hi
  | .str, pre, L, L', L'', seen, vs, x, hall, hpre, hok, hrow, hi, hrel => by
    cases L with
    | nil => simp [im] at hi
    | cons c L =>
      cases c with
      | str b =>
        simp only [im] at hi
        cases vs with
        | nil => exact hrel.elim
        | cons v vs =>
          simp only [rowsOf] at hrow
          cases hrow
          have h1 : v = .string b := hrel.1
          cases hi
          refine ⟨[.str x], [v], vs, seen, rfl, rfl, rfl, rfl, by rw [h1]; rfl, hrel.2, hok, ?_⟩
          intro id len hm
          simp at hm
          exact hpre id len hm
      | _ => simp [im] at hi
  | .unit, pre, L, L', L'', seen, vs, x, hall, hpre, hok, hrow, hi, hrel => by
    simp only [im] at hi
    cases hi
    simp only [rowsOf] at hrow
    cases hrow
    exact ⟨[], [], vs, seen, rfl, rfl, rfl, rfl, rfl, hrel, hok, by simpa using hpre⟩
  | .pair p q, pre, L, L', L'', seen, vs, x, hall, hpre, hok, hrow, hi, hrel => by
    simp only [im] at hi
    split at hi
    · rename_i y r1 hy
      split at hi
      · rename_i z r2 hz
        cases hi
        simp only [rowsOf] at hrow
        split at hrow
        · rename_i r1' hr1
          obtain ⟨c1, vs1, vs2, seen1, h1, h2, h3, h4, h5, h6, h7, h8⟩ := fr_of hm hE h all T hall hpre hok hr1 hy hrel
          subst h3
          obtain ⟨c2, vs3, vs4, seen2, h9, h10, h11, h12, h13, h14, h15, h16⟩ := fr_of hm hE h all T (pre := pre ++ c1) (by rw [hall, h1, List.append_assoc, List.append_assoc]) h8 h7 hrow hz h6
          refine ⟨c1 ++ c2, vs1 ++ vs3, vs4, seen2, by rw [h1, h9, List.append_assoc], by simp [Ty.n, h2, h10], h11, by rw [h4, h12, List.append_assoc], ⟨vs1, vs3, rfl, h5, ?_⟩, h14, h15, by rw [← List.append_assoc]; exact h16⟩
          rw [List.length_append, h2] at h13
          exact h13
        · cases hrow
      · cases hi
    · cases hi
  | .sl e t, pre, L, L', L'', seen, vs, x, hall, hpre, hok, hrow, hi, hrel => by
    cases L with
    | nil => simp [im] at hi
    | cons c L =>
      simp only [im] at hi
      split at hi
      · rename_i xs hxs
        cases hi
        cases vs with
        | nil => exact hrel.elim
        | cons v vs =>
          cases c with
          | own id len =>
            simp only [List.cons_append, resOk] at hok
            split at hok
            · rename_i b hb
              have hok' : ((b.f = true ∨ m = 0) ∨ m = 3) ∧ b.w = true ∧ (!hasN seen id) = true ∧ len.isNone = true ∧ resOk st m (id :: seen) (L' ++ T) = true := by
                have hlen : ∀ l : Option Int, (match l with | none => true | some _ => false) = true → l.isNone = true := by
                  intro l hl
                  cases l with
                  | none => rfl
                  | some _ => cases hl
                rcases hm with rfl | rfl
                · simp only [Bool.and_eq_true, Bool.or_eq_true] at hok
                  exact ⟨.inl (.inl (hok.1.1.elim (fun h => h.elim (fun h => h) (fun h => by cases h)) (fun h => by cases h))), hok.1.2.1.1, hok.1.2.1.2, hlen _ hok.1.2.2, hok.2⟩
                · simp only [Bool.and_eq_true] at hok
                  exact ⟨.inr rfl, hok.1.2.1.1, hok.1.2.1.2, hlen _ hok.1.2.2, hok.2⟩
              obtain ⟨hf, hw, hns, hlen, hok2⟩ := hok'
              have hf : m2 m = true → b.f = true := by
                intro h2
                have : m = 2 := beq_nat h2
                rcases hf with (h | h) | h
                · exact h
                · omega
                · omega
              cases len with
              | some l => simp at hlen
              | none =>
                simp only [rowsOf, hb] at hrow
                split at hrow
                · rename_i he
                  cases hrow
                  have he := beq_nat he
                  simp only [slData, hb] at hxs
                  split at hxs
                  · rename_i ht
                    have hxs := Option.some.inj hxs
                    have hbo := h.bl id b (blk_some hb)
                    obtain ⟨rows, h1, h2, h3⟩ := hbo.wr hw
                    have hpos := hbo.pos
                    obtain ⟨be, bt, bxs, bf, bw⟩ := b
                    dsimp only at *
                    have hte := Ty.beq_eq ht
                    subst hte
                    subst he
                    have hxs : bxs = x := hxs
                    subst hxs
                    have hidp : ∀ len, AC.own id len ∉ pre := by
                      intro len hm
                      have := hpre id len hm
                      rw [← hasN_mem] at this
                      rw [this] at hns
                      cases hns
                    have hpos_ : posOf all id 0 = some pre.length := by
                      rw [hall, List.cons_append, posOf_at hidp, Nat.zero_add]
                    refine ⟨[.own id none], [v], vs, id :: seen, rfl, rfl, rfl, rfl, ⟨v, rows, rfl, hpos, ?_, ?_, ?_⟩, hrel.2, hok2, ?_⟩
                    · rw [hrel.1.2.2]
                      exact h1
                    · intro g hg
                      rw [hrel.1.2.2] at hg
                      simp only [ownOf, h2 g hg, hpos_]
                    · exact els_weak (fun g hg => hE g (RO.weak hf hg)) h3
                    · intro i ln hm
                      rcases List.mem_append.1 hm with hm | hm
                      · exact List.mem_cons_of_mem _ (hpre i ln hm)
                      · simp at hm
                        rw [hm.1]
                        simp
                  · cases hxs
                · cases hrow
            · cases hok
          | nil =>
            simp only [slData] at hxs
            cases hxs
            simp only [rowsOf] at hrow
            split at hrow
            · cases hrow
            · rename_i hn
              cases hrow
              have h1 : v = .slice none 0 0 := hrel.1
              refine ⟨[.nil], [v], vs, seen, rfl, rfl, rfl, rfl, ⟨v, [], rfl, ?_, ?_, ?_, ?_⟩, hrel.2, hok, ?_⟩
              · cases hz : t.n with
                | zero => rw [hz] at hn; simp at hn
                | succ n => omega
              · rw [h1]
                exact ⟨by simp, .inl ⟨rfl, rfl⟩⟩
              · intro g hg
                rw [h1] at hg
                simp [Value.ownBlock] at hg
              · intro j x hj
                simp at hj
              · intro i ln hm
                simp at hm
                exact hpre i ln hm
          | ro f e' t' xs' => rcases hm with rfl | rfl <;> simp [resOk] at hok
          | _ => simp [slData] at hxs
      · cases hi

theorem res_own {m : Nat} (hm : m = 2 ∨ m = 3) {okE : Nat → Prop} (hE : ∀ g, RO G (m2 m) g → okE g) (h : Inv w0 G st a w) (all T : List AC) : ∀ (rs : List (Ty × Bool)) (l : List CV) (us : List Value) (r : Args rs) {pre : List AC} {seen : List Nat}, All2 (RelCV G w st.bx st.bl) l us → all = pre ++ (cvCells l ++ T) → (∀ id len, AC.own id len ∈ pre → id ∈ seen) →
    resOk st m seen (cvCells l ++ T) = true → rowsOk st rs l = true → imVs st rs l = some r → ResFr w okE (ownOf G all) rs r pre.length us ∧ ∃ seen', resOk st m seen' T = true ∧ (∀ id len, AC.own id len ∈ pre ++ cvCells l → id ∈ seen') ∧ (cvCells l).length = nOf rs
  | [], [], [], r, _, seen, _, _, hp, hk, _, _ => ⟨rfl, seen, hk, by simpa [cvCells] using hp, rfl⟩
  | _, [], _ :: _, _, _, _, hr, _, _, _, _, _ => hr.elim
  | _, _ :: _, [], _, _, _, hr, _, _, _, _, _ => hr.elim
  | [], _ :: _, _ :: _, _, _, _, _, _, _, _, _, hi => by simp [imVs] at hi
  | _ :: _, [], [], _, _, _, _, _, _, _, _, hi => by simp [imVs] at hi
  | p :: rs, o :: l, v :: us, r, pre, seen, hr, hall, hpre, hok, hrow, hi => by
    simp only [imVs] at hi
    split at hi
    · rename_i x hx
      split at hi
      · rename_i y hy
        cases hi
        simp only [rowsOk, Bool.and_eq_true] at hrow
        obtain ⟨hrow1, hrow2⟩ := hrow
        have hr1 : rowsOf st p.1 o.cells = some [] := by
          split at hrow1
          · assumption
          · cases hrow1
        have hev := hr.1
        -- the value's cells
        have hcells : ∃ vs, im st p.1 o.cells = some (x, []) ∧ All2 (RelC G w st.bx st.bl) o.cells vs ∧ v = (match p.2 with | true => .agg vs.toArray | false => vs.headD undef) := by
          unfold imV at hx
          split at hx
          · rename_i cs hp
            split at hx
            · rename_i z hz
              cases hx
              obtain ⟨vs, hv, hrel⟩ := hev
              refine ⟨vs.toList, hz, hrel, by rw [hp, hv, Array.toArray_toList]⟩
            · cases hx
          · rename_i c hp
            split at hx
            · rename_i z hz
              cases hx
              exact ⟨[v], hz, ⟨hev, trivial⟩, by rw [hp]; rfl⟩
            · cases hx
          · cases hx
        obtain ⟨vs, him, hrel, hval⟩ := hcells
        have hL : cvCells (o :: l) = o.cells ++ cvCells l := rfl
        rw [hL, List.append_assoc] at hall hok
        obtain ⟨c1, vs1, vs2, seen2, h1, h2, h3, h4, h5, h6, h7, h8⟩ := fr_of hm hE h all (cvCells l ++ T) hall hpre hok hr1 him hrel
        rw [List.append_nil] at h1
        cases vs2 with
        | cons _ _ => exact h6.elim
        | nil =>
          rw [List.append_nil] at h4
          subst h4
          obtain ⟨h9, seen', h10, h11, h12⟩ := res_own hm hE h all T rs l us y (pre := pre ++ o.cells) hr.2 (by rw [hall, List.append_assoc]) (by rw [h1]; exact h8) h7 hrow2 hy
          rw [List.length_append, h1, h2] at h9
          refine ⟨⟨v, us, rfl, ⟨vs, h5, hval⟩, h9⟩, seen', h10, ?_, ?_⟩
          · rw [hL, ← List.append_assoc]
            exact h11
          · rw [hL, List.length_append, h12, h1, h2]
            rfl
      · cases hi
    · cases hi

end
end Go.Am
