/- Each operation of the abstract machine is Go's own, part one. No condition. -/
import Derived.Test.YtijjjmdoflbmfaaGreatDoorAmRel
import Derived.Laws.Small
import Derived.Laws.Shifts
import Derived.Laws.BytesArg
import Derived.Laws.Slices
import Derived.Laws.Strings2
import Derived.Laws.Strings3
import Derived.Laws.Strings
import Derived.Laws.OwnMore
import Derived.Laws.AppendOwnNone
set_option linter.unusedVariables false
set_option linter.unusedSimpArgs false
namespace Go.Am
open Go.RowKit

/-! ### Reading the frame -/
section
variable {w0 : Root} {w : World} {G : Gh} {st : St} {a : Act} {bx : List (Nat × List AC)} {bl : List (Nat × Option Blk)}

theorem ofCell_rel (v : Value) : RelC G w bx bl (ofCell v) v := by
  unfold ofCell
  split <;> simp [RelC]

theorem map_rel : ∀ (l : List Value), All2 (RelC G w bx bl) (l.map ofCell) l
  | [] => trivial
  | v :: l => ⟨ofCell_rel v, map_rel l⟩

theorem ofConst_rel (v : Value) : RelCV G w bx bl (ofConst v) v := by
  unfold ofConst
  split
  · exact ⟨_, rfl, map_rel _⟩
  · exact ofCell_rel v

theorem Inv.ev (h : Inv w0 G st a w) (o : Operand) : RelAV G w st.bx st.bl (st.ev o) (a.eval o) := by
  cases o with
  | tmp t =>
    show RelAV G w st.bx st.bl (st.get t) (a.tmps.getD t undef)
    unfold St.get
    cases hl : look st.tm t with
    | none => exact trivial
    | some v => exact h.tm t v hl
  | const v => exact ofConst_rel v
  | global g => exact trivial
  | func f => exact trivial

theorem Inv.evc (h : Inv w0 G st a w) (o : Operand) : RelCV G w st.bx st.bl (st.evc o) (a.eval o) := by
  have := h.ev o
  unfold St.evc
  cases hv : st.ev o with
  | v x => rw [hv] at this; exact this
  | tup l => exact trivial

theorem Inv.ac (h : Inv w0 G st a w) (o : Operand) : RelC G w st.bx st.bl (st.ac o) (a.eval o) := by
  have := h.evc o
  unfold St.ac
  cases hv : st.evc o with
  | c x => rw [hv] at this; exact this
  | agg l => exact trivial

theorem RelC.one {c : AC} {v : Value} (h : RelC G w bx bl c v) (hn : c ≠ .none) : v.oneCell' = true := by
  cases c with
  | none => exact absurd rfl hn
  | int k n => rw [show v = _ from h]; rfl
  | bool b => rw [show v = _ from h]; rfl
  | str s => rw [show v = _ from h]; rfl
  | nil => rw [show v = _ from h]; rfl
  | ro f e t xs => exact (show Rd w _ (.sl e t) xs [v] from h).one v (by simp)
  | own id len =>
    cases len with
    | none =>
      obtain ⟨_, ⟨A, n, k, he⟩, hv⟩ := h
      rw [hv, he]
      rfl
    | some l =>
      obtain ⟨_, _, A, n, cap, _, _, rfl⟩ := h
      rfl
  | ptr b off => rw [h.2]; rfl
  | fnp g b => rw [h.2]; rfl
  | eown id i off => exact h.2.1
  | ero f t x off =>
    obtain ⟨b, o, c, rfl, _⟩ := h
    rfl

theorem cells_of_one {v : Value} (h : v.oneCell' = true) : v.cells = #[v] := by
  cases v <;> first | rfl | (simp [Value.oneCell'] at h)

/-- A known value's cells. -/
theorem RelCV.cells {c : CV} {v : Value} (h : RelCV G w bx bl c v) (hk : c.kn = true) : All2 (RelC G w bx bl) c.cells v.cells.toList := by
  cases c with
  | c x =>
    have hn : x ≠ .none := by rintro rfl; cases hk
    have h1 : v.oneCell' = true := RelC.one (c := x) h hn
    rw [cells_of_one h1]
    exact ⟨h, trivial⟩
  | agg l =>
    obtain ⟨cs, rfl, h⟩ := h
    exact h
end

/-! ### The shape of a step -/
theorem blt_lt {a b : Nat} (h : Nat.blt a b = true) : a < b := by rwa [Nat.blt_eq] at h
theorem ble_le {a b : Nat} (h : Nat.ble a b = true) : a ≤ b := by rwa [Nat.ble_eq] at h
theorem beq_nat {a b : Nat} (h : Nat.beq a b = true) : a = b := Nat.eq_of_beq_eq_true h
theorem beq_nat_false {a b : Nat} (h : (!Nat.beq a b) = true) : a ≠ b := by
  rintro rfl
  simp at h
theorem ck_some {α : Type} {c : Bool} {k : Option α} {r : α} (h : ck c k = some r) : c = true ∧ k = some r := by
  cases c
  · cases h
  · exact ⟨rfl, h⟩
theorem br_some {α : Type} {c : Bool} {x y : Option α} {r : α} (h : br c x y = some r) : (c = true ∧ x = some r) ∨ (c = false ∧ y = some r) := by
  cases c
  · exact .inr ⟨rfl, h⟩
  · exact .inl ⟨rfl, h⟩

section
variable {P : Program} {w0 : Root} {w : World} {G : Gh} {st : St} {a : Act} {α : Type} {k : St → Option α} {r : α} {K : Act → World → Prop} {Q : Exit → Act → World → Prop} {o : Oper}

theorem wp_val {v : Value} {w' : World} (he : (execOp a.eval o).run P w = .ok (.value v) w') (h : K (a.put o.dst v) w') : o.wp P a w K Q := by
  unfold Oper.wp
  rw [he]
  exact h
theorem wp_skp {w' : World} (he : (execOp a.eval o).run P w = .ok .skip w') (h : K (a.put o.dst undef) w') : o.wp P a w K Q := by
  unfold Oper.wp
  rw [he]
  exact h

/-- What the machine goes on with. -/
def Goes (w0 : Root) (k : St → Option α) (r : α) (K : Act → World → Prop) : Prop := ∀ G' st' a' w', Inv w0 G' st' a' w' → k st' = some r → K a' w'

theorem pk_goes {d : Option Tmp} {v : AV} {u : Value} (h : Inv w0 G st a w) (hv : RelAV G w st.bx st.bl v u) (hr : st.pk d v k = some r) (hK : Goes w0 k r K) : K (a.put d u) w := by
  cases d with
  | none => exact hK G st a w h hr
  | some d =>
    obtain ⟨hc, hk⟩ := ck_some hr
    exact hK G _ _ w (h.put d (blt_lt hc) hv) hk

/-- What an operation that reads memory asks of the world that it runs in. -/
def memOk (o : Oper) (w w1 : World) : Prop := match o.op with
  | .load _ _ | .convert _ _ _ => Below w.heap.size w w1
  | _ => True
theorem memOk_of_below {o : Oper} {w w1 : World} (h : Below w.heap.size w w1) : memOk o w w1 := by
  unfold memOk
  split <;> first | exact h | trivial
/-- What the machine says of an operation that turns no memory: its value is the same however much memory has been added. -/
def Calmly (P : Program) (w0 : Root) (w : World) (a : Act) (o : Oper) {α : Type} (k : St → Option α) (r : α) : Prop :=
  ∃ v G' st', (∀ w1, memOk o w w1 → (execOp a.eval o).run P w1 = .ok (.value v) w1) ∧ Inv w0 G' st' (a.put o.dst v) w ∧ k st' = some r

theorem calm_of (h : Inv w0 G st a w) {v : AV} {u : Value} (hv : RelAV G w st.bx st.bl v u) (hr : st.pk o.dst v k = some r) (he : ∀ w1, memOk o w w1 → (execOp a.eval o).run P w1 = .ok (.value u) w1) : Calmly P w0 w a o k r := by
  obtain ⟨G', st', h1, h2⟩ := pk_goes (K := fun a' w' => ∃ G' st', Inv w0 G' st' a' w' ∧ k st' = some r) h hv hr fun G' st' a' w' h' hr' => ⟨G', st', h', hr'⟩
  exact ⟨u, G', st', he, h1, h2⟩

theorem calmly_wp (h : Calmly P w0 w a o k r) (hK : Goes w0 k r K) : o.wp P a w K Q := by
  obtain ⟨v, G', st', he, h1, h2⟩ := h
  exact wp_val (he w (memOk_of_below (Below.refl _ w))) (hK _ _ _ _ h1 h2)

theorem below_ext (h : Inv w0 G st a w) {w1 : World} (hB : Below w.heap.size w w1) : Ext G w G w1 := ⟨rfl, rfl, hB.size, fun b hb ho => ⟨ho, hB.block b hb⟩, fun b hb ho => ⟨ho, hB.block b hb⟩⟩

theorem Inv.lit (h : Inv w0 G st a w) (x : Operand) (b : Bool) (hb : a.eval x = .bool b) : Inv w0 G (st.lit x b) a w := by
  cases x with
  | tmp t =>
    refine { h with tm := fun s v hs => ?_ }
    simp only [St.lit, St.put, look_cons] at hs
    by_cases ht : t = s
    · subst ht
      simp only [if_true] at hs
      cases hs
      exact hb
    · simp only [ht, if_false] at hs
      exact h.tm s v hs
  | const v => exact h
  | global g => exact h
  | func f => exact h

theorem bool_of {c : AC} {v : Value} {b : Bool} {bx : List (Nat × List AC)} {bl : List (Nat × Option Blk)} (h : RelC G w bx bl c v) (hc : c = .bool b) : v = .bool b := by subst hc; exact h

/-! ### move, assign, pick -/
theorem calm_move (h : Inv w0 G st a w) (x : Operand) (ho : o.op = .move x ∨ o.op = .assign x) (hr : st.pk o.dst (st.ev x) k = some r) : Calmly P w0 w a o k r := by
  refine calm_of (u := a.eval x) h (h.ev x) hr fun w1 hB => ?_
  rcases ho with ho | ho <;> (unfold execOp; rw [ho]; rfl)

theorem calm_pick (h : Inv w0 G st a w) (c x y : Operand) (ho : o.op = .pick c x y) {b : Bool} (hc : st.ac c = .bool b)
    (hr : br b ((st.lit c true).pk o.dst (st.ev x) k) ((st.lit c false).pk o.dst (st.ev y) k) = some r) : Calmly P w0 w a o k r := by
  have hb := bool_of (h.ac c) hc
  have he : ∀ w1, (execOp a.eval o).run P w1 = .ok (.value (if b then a.eval x else a.eval y)) w1 := by
    intro w1
    unfold execOp
    rw [ho]
    simp [hb, asBool]
  rcases br_some hr with ⟨rfl, hr⟩ | ⟨rfl, hr⟩
  · exact calm_of (h.lit c true hb) (v := st.ev x) (u := a.eval x) (by have := h.ev x; cases c <;> exact this) hr fun w1 _ => he w1
  · exact calm_of (h.lit c false hb) (v := st.ev y) (u := a.eval y) (by have := h.ev y; cases c <;> exact this) hr fun w1 _ => he w1

/-! ### box, alloc -/
theorem run_newVar (t : TypeId) (v : Value) (w : World) : (newVar t v).run P w = .ok ⟨w.heap.size, 0, none⟩ (w.alloc (.cells v.cells t)) := by
  simp [newVar, newRow]

theorem box_goes (h : Inv w0 G st a w) (d : Tmp) (hd : look st.bx d = none) (hlt : d < st.nt) (c : CV) (v : Value) (hc : RelCV G w st.bx st.bl c v) (hk : c.kn = true) (t : TypeId)
    (hr : k { (st.put d (.v (.c (.ptr d 0)))) with bx := (d, c.cells) :: st.bx } = some r) (hK : Goes w0 k r K) :
    K (a.put (some d) (.pointer (some ⟨w.heap.size, 0, none⟩))) (w.alloc (.cells v.cells t)) := by
  obtain ⟨h1, hx, hs⟩ := h.box d hd v.cells t c.cells (hc.cells hk)
  have h2 := h1.put d hlt (v := .v (.c (.ptr d 0))) (u := .pointer (some ⟨w.heap.size, 0, none⟩)) (by
    refine ⟨?_, ?_⟩
    · simp [look_cons]
    · simp [Gh.box])
  exact hK _ _ _ _ h2 hr

theorem sound_box (h : Inv w0 G st a w) (t : TypeId) (x : Operand) (ho : o.op = .box t x) {d : Tmp} (hdst : o.dst = some d) (hd : look st.bx d = none)
    (hr : ck (Nat.blt d st.nt && (st.evc x).kn) (k { (st.put d (.v (.c (.ptr d 0)))) with bx := (d, (st.evc x).cells) :: st.bx }) = some r) (hK : Goes w0 k r K) : o.wp P a w K Q := by
  obtain ⟨hc, hk⟩ := ck_some hr
  rw [Bool.and_eq_true] at hc
  refine wp_val (v := .pointer (some ⟨w.heap.size, 0, none⟩)) (w' := w.alloc (.cells (a.eval x).cells t)) ?_ ?_
  · unfold execOp
    rw [ho]
    simp [Instr.box, run_newVar]
  · rw [hdst]
    exact box_goes h d hd (blt_lt hc.1) _ _ (h.evc x) hc.2 t hk hK

theorem zeroOf_some {t : TypeId} {z : CV} (h : zeroOf P t = some z) : ∃ i v, P.info? t = some i ∧ i.zero = some v ∧ z = ofConst v := by
  unfold zeroOf at h
  split at h
  · rename_i i hi
    split at h
    · rename_i v hv
      exact ⟨i, v, hi, hv, by cases h; rfl⟩
    · cases h
  · cases h

theorem sound_alloc (h : Inv w0 G st a w) (t : TypeId) (ho : o.op = .alloc t) {d : Tmp} (hdst : o.dst = some d) (hd : look st.bx d = none) {z : CV} (hz : zeroOf P t = some z)
    (hr : ck (Nat.blt d st.nt && z.kn) (k { (st.put d (.v (.c (.ptr d 0)))) with bx := (d, z.cells) :: st.bx }) = some r) (hK : Goes w0 k r K) : o.wp P a w K Q := by
  obtain ⟨hc, hk⟩ := ck_some hr
  rw [Bool.and_eq_true] at hc
  obtain ⟨i, v, hi, hv, rfl⟩ := zeroOf_some hz
  refine wp_val (v := .pointer (some ⟨w.heap.size, 0, none⟩)) (w' := w.alloc (.cells v.cells t)) ?_ ?_
  · unfold execOp
    rw [ho]
    simp [Instr.alloc, zeroValue, typeInfo, hi, hv, run_newVar]
  · rw [hdst]
    exact box_goes h d hd (blt_lt hc.1) _ _ (ofConst_rel v) hc.2 t hk hK

/-! ### load -/
theorem ex_rel {f : Bool} {bx : List (Nat × List AC)} {bl : List (Nat × Option Blk)} : ∀ {t : Ty} {x : t.D} {c : List Value}, Rd w (RO G f) t x c → All2 (RelC G w bx bl) (ex f t x) c
  | .int _, _, _, h => by rw [show _ = _ from h]; exact ⟨rfl, trivial⟩
  | .bool, _, _, h => by rw [show _ = _ from h]; exact ⟨rfl, trivial⟩
  | .str, _, _, h => by rw [show _ = _ from h]; exact ⟨rfl, trivial⟩
  | .unit, _, _, h => by rw [show _ = _ from h]; trivial
  | .pair a b, _, _, h => by
    obtain ⟨c1, c2, rfl, h1, h2⟩ := h
    exact All2.app (ex_rel h1) (ex_rel h2)
  | .sl e t, xs, c, h => by
    obtain ⟨A, cap, rfl, hr⟩ := h
    exact ⟨⟨A, cap, rfl, hr⟩, trivial⟩

/-- Cells from an address on. -/
def CellsAt (w : World) (b o : Nat) (vs : List Value) : Prop := ∀ i u, vs[i]? = some u → w.cell? ⟨b, o + i, none⟩ = some u

theorem CellsAt.drop {b o n : Nat} {vs : List Value} (h : CellsAt w b o vs) : CellsAt w b (o + n) (vs.drop n) := by
  intro i u hu
  rw [List.getElem?_drop] at hu
  have := h _ _ hu
  rwa [← Nat.add_assoc] at this
theorem CellsAt.take {b o n : Nat} {vs : List Value} (h : CellsAt w b o vs) : CellsAt w b o (vs.take n) := by
  intro i u hu
  rw [List.getElem?_take] at hu
  split at hu
  · exact h _ _ hu
  · cases hu
theorem CellsAt.of_heap {g : Nat} {cs : Array Value} {e : TypeId} {fr : Nat × Nat} (h : w.heap[g]? = some (.cells cs e fr)) : CellsAt w g 0 cs.toList := by
  intro i u hu
  rw [Nat.zero_add, cell_of_row w g i cs e fr h]
  simpa using hu

theorem getD_some {α : Type} {l : List α} {i : Nat} (h : i < l.length) (d : α) : l[i]? = some (l.getD i d) := by
  simp [List.getElem?_eq_getElem h, List.getD_eq_getElem?_getD]

/-- An own row's element: its cells, and where they lie. -/
theorem elem_at {id : Nat} {b : Blk} (hb : BlkOk G w id b) {g o n cap : Nat} (hv : G.hv id = .slice (some ⟨g, o, none⟩) n cap) {j : Nat} (hj : j < n) :
    n = b.xs.length ∧ ∃ c, Rd w (RO G b.f) b.t (b.xs.getD j b.t.dflt) c ∧ CellsAt w g (o + j * b.t.n) c := by
  cases hw : b.w with
  | true =>
    obtain ⟨cs, h1, h2, h3⟩ := hb.wr hw
    rcases h1.2 with ⟨he, _⟩ | ⟨g', cap', cur, he, _, hh, _, _, _, htk⟩
    · rw [hv] at he; cases he
    · rw [hv] at he
      injection he with he1 he2 he3
      injection he1 with he1
      injection he1 with hg ho _
      subst hg ho he2
      refine ⟨rfl, ?_⟩
      obtain ⟨c, hr, hc⟩ := h3 j _ (getD_some hj b.t.dflt)
      refine ⟨c, hr, fun i u hu => ?_⟩
      have := hc i u hu
      rw [← htk, List.getElem?_take] at this
      split at this
      · rw [Nat.zero_add, cell_of_row w g _ cur b.e (0, 0) hh]
        simpa using this
      · cases this
  | false =>
    obtain ⟨A, cap', he, hc1, h63, hr⟩ := hb.rd hw
    have he' := List.cons.inj he
    rw [hv] at he'
    injection he'.1 with h1 h2 h3
    subst h2
    refine ⟨rfl, ?_⟩
    obtain ⟨b1, o1, hA, _, _, hr⟩ := hr (by omega)
    rw [hA] at h1
    injection h1 with h1
    injection h1 with hg ho _
    subst hg ho
    obtain ⟨c, hrd, hcell⟩ := hr j _ (getD_some hj b.t.dflt)
    refine ⟨c, hrd, fun i u hu => ?_⟩
    rw [Nat.add_assoc]
    exact hcell i u hu

theorem cellsAt_rel (h : Inv w0 G st a w) {c : AC} {v : Value} (hc : RelC G w st.bx st.bl c v) {l : List AC} {off : Nat} (he : cellsAt st c = some (l, off)) :
    ∃ g o vs, v = .pointer (some ⟨g, o + off, none⟩) ∧ CellsAt w g o vs ∧ All2 (RelC G w st.bx st.bl) l vs := by
  cases c with
  | ptr b q =>
    obtain ⟨h1, rfl⟩ := hc
    simp only [cellsAt] at he
    cases hl : look st.bx b with
    | none => rw [hl] at he; cases he
    | some m =>
      rw [hl] at he
      cases he
      obtain ⟨cs, e, hh, _, hr⟩ := h.bx b _ hl
      exact ⟨G.hb b, 0, cs.toList, by rw [Nat.zero_add], CellsAt.of_heap hh, hr⟩
  | eown id i q =>
    simp only [cellsAt] at he
    obtain ⟨h1, _, h0, g, o, n, cap, hv, hi, hp⟩ := hc
    unfold St.blk at he
    cases hl : look st.bl id with
    | none => rw [hl] at he; cases he
    | some ob =>
      rw [hl] at he
      cases ob with
      | none => cases he
      | some b =>
        cases he
        have hp := hp b hl
        obtain ⟨hn, c, hr, hcell⟩ := elem_at (h.bl id b hl) hv (show i.toNat < n by omega)
        refine ⟨g, o + i.toNat * b.t.n, c, ?_, hcell, ex_rel hr⟩
        rw [hp, Nat.add_assoc]
  | ero f t x q =>
    simp only [cellsAt] at he
    cases he
    obtain ⟨b, o, cs, rfl, _, hok, hr, hcell⟩ := hc
    exact ⟨b, o, cs, rfl, hcell, ex_rel hr⟩
  | _ => cases he

theorem run_loadVar {t : TypeId} {g o : Nat} {vs : List Value} (hc : CellsAt w g o vs) (hn : P.cellsOf t = vs.length) (hp : 0 < vs.length ∨ True) {b : Bool} (hagg : aggT P t = some b) :
    (loadVar t ⟨g, o, none⟩).run P w = match b with | true => (match P.info? t with | some _ => .ok (.agg vs.toArray) w | none => (loadVar t ⟨g, o, none⟩).run P w) | false => (load ⟨g, o, none⟩).run P w := by
  have hia : (isAgg t).run P w = .ok b w := by
    unfold isAgg aggT at *
    cases hu : P.underlying t with
    | none => rw [hu] at hagg; cases hagg
    | some d =>
      rw [hu] at hagg
      rw [Sem.run_bind, run_underlying hu w]
      cases d <;> simp_all
  cases b with
  | false => simp [loadVar, hia]
  | true =>
    cases hi : P.info? t with
    | none => rfl
    | some i =>
      have hs : i.size = vs.length := by rw [← hn]; simp [Program.cellsOf, hi]
      have hl : (loadCells ⟨g, o, none⟩ vs.length).run P w = .ok vs.toArray w := by
        refine run_loadCells_list (P := P) w ⟨g, o, none⟩ vs fun j v hv => ?_
        have : (⟨g, o, none⟩ : Addr).add j = ⟨g, o + j, none⟩ := by unfold Addr.add; split <;> simp_all
        rw [this]
        exact hc j v hv
      simp [loadVar, hia, sizeOf, typeInfo, hi, hs, hl]

theorem info_of_agg {t : TypeId} {b : Bool} (h : aggT P t = some b) : ∃ i, P.info? t = some i := by
  unfold aggT Program.underlying at h
  cases hi : P.info? t with
  | none => rw [hi] at h; cases h
  | some i => exact ⟨i, rfl⟩

theorem CellsAt.below {w w1 : World} (hB : Below w.heap.size w w1) {g o : Nat} {vs : List Value} (h : CellsAt w g o vs) : CellsAt w1 g o vs := by
  intro j v hv
  have hc := h j v hv
  have hlt := World.block_lt_of_cell? _ _ hc
  rw [cell_of_heap (hB.block g hlt)]
  exact hc

theorem calm_load (h : Inv w0 G st a w) (t : TypeId) (x : Operand) (ho : o.op = .load t x) {l : List AC} {off : Nat} (hc : cellsAt st (st.ac x) = some (l, off))
    (hn : Nat.beq (takeN (P.cellsOf t) (dropN off l)).length (P.cellsOf t) = true)
    {b : Bool} (hagg : aggT P t = some b)
    {v : CV} (hv : match b with | true => v = .agg (takeN (P.cellsOf t) (dropN off l)) | false => ∃ y, takeN (P.cellsOf t) (dropN off l) = [y] ∧ v = .c y)
    (hr : st.pk o.dst (.v v) k = some r) : Calmly P w0 w a o k r := by
  obtain ⟨g, q, vs, hp, hcell, hrel⟩ := cellsAt_rel h (h.ac x) hc
  have hrel' := (hrel.drop off).take (P.cellsOf t)
  have hcell' : CellsAt w g (q + off) ((vs.drop off).take (P.cellsOf t)) := hcell.drop.take
  have hlen := hrel'.len
  have hn' := beq_nat hn
  have hrun1 := fun w1 (hB : Below w.heap.size w w1) => run_loadVar (P := P) (CellsAt.below hB hcell') (by omega) (.inr trivial) hagg
  have hmem : ∀ w1, memOk o w w1 → Below w.heap.size w w1 := fun w1 hB => by unfold memOk at hB; rw [ho] at hB; exact hB
  obtain ⟨i, hi⟩ := info_of_agg hagg
  cases b with
  | true =>
    subst hv
    simp only [hi] at hrun1
    refine calm_of (u := .agg ((vs.drop off).take (P.cellsOf t)).toArray) h (v := .v (.agg _)) ⟨_, rfl, hrel'⟩ hr fun w1 hB => ?_
    have hB := hmem w1 hB
    have hrun := hrun1 w1 hB
    unfold execOp
    rw [ho]
    simp [Instr.loadAt, Instr.sureAddr, hp, hrun]
  | false =>
    obtain ⟨y, hy, rfl⟩ := hv
    rw [hy] at hrel'
    obtain ⟨u, hu⟩ : ∃ u, (vs.drop off).take (P.cellsOf t) = [u] := by
      cases hm : (vs.drop off).take (P.cellsOf t) with
      | nil => rw [hm] at hrel'; exact hrel'.elim
      | cons u m =>
        rw [hm] at hrel'
        cases m with
        | nil => exact ⟨u, rfl⟩
        | cons _ _ => exact hrel'.2.elim
    rw [hu] at hrel' hcell'
    refine calm_of (u := u) h (v := .v (.c y)) hrel'.1 hr fun w1 hB => ?_
    have hB := hmem w1 hB
    have hrun := hrun1 w1 hB
    have hcu := CellsAt.below hB hcell' 0 u rfl
    rw [Nat.add_zero] at hcu
    unfold execOp
    rw [ho]
    simp [Instr.loadAt, Instr.sureAddr, hp, hrun, hcu]

/-- It reads only what nobody owns. -/
def CalmlyRO (P : Program) (w0 : Root) (G : Gh) (w : World) (a : Act) (o : Oper) {α : Type} (k : St → Option α) (r : α) : Prop :=
  ∃ v G' st', (∀ w1, (∀ g, g < w.heap.size → G.own g = none → w1.heap[g]? = w.heap[g]?) → (execOp a.eval o).run P w1 = .ok (.value v) w1) ∧ Inv w0 G' st' (a.put o.dst v) w ∧ k st' = some r
theorem calm_ro (h : Inv w0 G st a w) {v : AV} {u : Value} (hv : RelAV G w st.bx st.bl v u) (hr : st.pk o.dst v k = some r) (he : ∀ w1, (∀ g, g < w.heap.size → G.own g = none → w1.heap[g]? = w.heap[g]?) → (execOp a.eval o).run P w1 = .ok (.value u) w1) : CalmlyRO P w0 G w a o k r := by
  obtain ⟨G', st', h1, h2⟩ := pk_goes (K := fun a' w' => ∃ G' st', Inv w0 G' st' a' w' ∧ k st' = some r) h hv hr fun G' st' a' w' h' hr' => ⟨G', st', h', hr'⟩
  exact ⟨u, G', st', he, h1, h2⟩
theorem cellsAt_ro (h : Inv w0 G st a w) {c : AC} {v : Value} (hc : RelC G w st.bx st.bl c v) {f : Bool} {u0 : Ty} {y0 : u0.D} {off0 : Nat} (hero : c = .ero f u0 y0 off0) {l : List AC} {off : Nat} (he : cellsAt st c = some (l, off)) :
    ∃ g o vs, v = .pointer (some ⟨g, o + off, none⟩) ∧ CellsAt w g o vs ∧ All2 (RelC G w st.bx st.bl) l vs ∧ G.own g = none ∧ g < w.heap.size := by
  subst hero
  obtain ⟨b, o, c, hv, hb, hok, hr, hc⟩ := hc
  cases he
  exact ⟨b, o, c, hv, hc, ex_rel hr, hok.1, hb⟩
theorem load_ro (h : Inv w0 G st a w) (t : TypeId) (x : Operand) (ho : o.op = .load t x) {l : List AC} {off : Nat} (hc : cellsAt st (st.ac x) = some (l, off))
    (hn : Nat.beq (takeN (P.cellsOf t) (dropN off l)).length (P.cellsOf t) = true)
    {b : Bool} (hagg : aggT P t = some b)
    {v : CV} (hv : match b with | true => v = .agg (takeN (P.cellsOf t) (dropN off l)) | false => ∃ y, takeN (P.cellsOf t) (dropN off l) = [y] ∧ v = .c y)
    {f : Bool} {u0 : Ty} {y0 : u0.D} {off0 : Nat} (hero : st.ac x = .ero f u0 y0 off0) (hr : st.pk o.dst (.v v) k = some r) : CalmlyRO P w0 G w a o k r := by
  obtain ⟨g, q, vs, hp, hcell, hrel, hg, hlt⟩ := cellsAt_ro h (h.ac x) hero hc
  have hrel' := (hrel.drop off).take (P.cellsOf t)
  have hcell' : CellsAt w g (q + off) ((vs.drop off).take (P.cellsOf t)) := hcell.drop.take
  have hlen := hrel'.len
  have hn' := beq_nat hn
  have hst : ∀ w1, (∀ g, g < w.heap.size → G.own g = none → w1.heap[g]? = w.heap[g]?) → CellsAt w1 g (q + off) ((vs.drop off).take (P.cellsOf t)) := fun w1 hB i u hu => by
    rw [cell_of_heap (hB g hlt hg)]
    exact hcell' i u hu
  have hrun1 := fun w1 hB => run_loadVar (P := P) (hst w1 hB) (by omega) (.inr trivial) hagg
  obtain ⟨i, hi⟩ := info_of_agg hagg
  cases b with
  | true =>
    subst hv
    simp only [hi] at hrun1
    refine calm_ro (u := .agg ((vs.drop off).take (P.cellsOf t)).toArray) h (v := .v (.agg _)) ⟨_, rfl, hrel'⟩ hr fun w1 hB => ?_
    have hrun := hrun1 w1 hB
    unfold execOp
    rw [ho]
    simp [Instr.loadAt, Instr.sureAddr, hp, hrun]
  | false =>
    obtain ⟨y, hy, rfl⟩ := hv
    rw [hy] at hrel'
    obtain ⟨u, hu⟩ : ∃ u, (vs.drop off).take (P.cellsOf t) = [u] := by
      cases hm : (vs.drop off).take (P.cellsOf t) with
      | nil => rw [hm] at hrel'; exact hrel'.elim
      | cons u m =>
        rw [hm] at hrel'
        cases m with
        | nil => exact ⟨u, rfl⟩
        | cons _ _ => exact hrel'.2.elim
    rw [hu] at hrel' hcell'
    refine calm_ro (u := u) h (v := .v (.c y)) hrel'.1 hr fun w1 hB => ?_
    have hrun := hrun1 w1 hB
    have hcu := hst w1 hB 0 u (by rw [hu]; rfl)
    rw [Nat.add_zero] at hcu
    unfold execOp
    rw [ho]
    simp [Instr.loadAt, Instr.sureAddr, hp, hrun, hcu]
end
end Go.Am
