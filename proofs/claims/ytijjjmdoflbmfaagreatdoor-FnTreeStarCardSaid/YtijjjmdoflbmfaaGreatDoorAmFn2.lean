/- A function that writes to what it is handed keeps its contract. No condition. -/
import Derived.Test.YtijjjmdoflbmfaaGreatDoorAmFn
set_option linter.unusedVariables false
set_option linter.unusedSimpArgs false
namespace Go.Am
open Go.RowKit
section
variable {N : Nat} {P : Program} {C : FuncId → Option Any} {w0 : Root} {w : World} {G : Gh} {st : St} {a : Act}

/-! ### The start -/
def gh2 (ok nw : Nat → Prop) (own : Nat → Option Nat) (L : List (Nat × Blk × Value)) (B : Option (Nat × Nat × List AC)) : Gh :=
  { nw := nw, ok := ok, hb := fun _ => match B with | some (_, g0, _) => g0 | none => 0, hv := fun i => hvL L i, own := fun g => match own g with | none => none | some _ => backKey L B g }
def boxL : Option (Nat × Nat × List AC) → List (Nat × List AC)
  | none => []
  | some (d, _, l) => [(d, l)]
def rowL (L : List (Nat × Blk × Value)) : List (Nat × Option Blk) := L.map fun z => (z.1, some z.2.1)

structure StartOk (w : World) (ok nw : Nat → Prop) (own : Nat → Option Nat) (L : List (Nat × Blk × Value)) (B : Option (Nat × Nat × List AC)) : Prop where
  row : ∀ z ∈ L, z.2.1.w = true ∧ 0 < z.2.1.t.n ∧ (∃ rows, w.ownsRow 0 z.2.1.e z.2.1.t.n z.2.2 z.2.1.xs.length rows ∧ ElsIn w (fun g => own g = none ∧ (nw g ∨ (z.2.1.f = false ∧ ok g))) z.2.1.t rows z.2.1.xs) ∧ ∀ g, z.2.2.ownBlock = some g → (own g).isSome = true
  inj : ∀ z ∈ L, ∀ z' ∈ L, ∀ g, z.2.2.ownBlock = some g → z'.2.2.ownBlock = some g → z = z'
  uniq : ∀ z ∈ L, ∀ z' ∈ L, z.1 = z'.1 → z = z'
  box : ∀ d g l, B = some (d, g, l) → (own g).isSome = true ∧ L = [] ∧ ∃ cs e f t x, w.heap[g]? = some (.cells cs e (0, 0)) ∧ l = ex f t x ∧ Rd w (fun g => own g = none ∧ (nw g ∨ (f = false ∧ ok g))) t x cs.toList

theorem start_ro {ok nw : Nat → Prop} {own : Nat → Option Nat} {L : List (Nat × Blk × Value)} {B : Option (Nat × Nat × List AC)} {f : Bool} {g : Nat} (h : own g = none ∧ (nw g ∨ (f = false ∧ ok g))) : RO (gh2 ok nw own L B) f g :=
  ⟨by simp [gh2, h.1], h.2⟩

theorem start_inv {ok nw : Nat → Prop} {own : Nat → Option Nat} {Bd : Nat → Prop} (hh : Handed w Bd ok nw own) {R : Root} (hhd : R.hd = fun _ => none) (hw : R.w = w) (hok : R.ok = ok) (hnw : R.nw = nw) {L : List (Nat × Blk × Value)} {B : Option (Nat × Nat × List AC)}
    (hfr : ∀ g k, (gh2 ok nw own L B).own g = some k → R.fr g) (hS : StartOk w ok nw own L B) {nt : Nat} {tm : List (Nat × AV)} {sp : AV} (hd : a.defers = []) (hs : a.tmps.size = nt)
    (hsp : RelAV (gh2 ok nw own L B) w (boxL B) (rowL L) sp R.pv) (htm : ∀ t v, look tm t = some v → RelAV (gh2 ok nw own L B) w (boxL B) (rowL L) v (a.tmps.getD t undef)) :
    Inv R (gh2 ok nw own L B) { nt := nt, tm := tm, bx := boxL B, bl := rowL L, sp := sp } a w := by
  subst hw
  have hrowg : ∀ z ∈ L, ∀ g, z.2.2.ownBlock = some g → (gh2 ok nw own L B).own g = some (.bl z.1) := by
    intro z hz g hg
    have ho := (hS.row z hz).2.2.2 g hg
    obtain ⟨j, hj⟩ := Option.isSome_iff_exists.1 ho
    have hB : B = none := by
      cases B with
      | none => rfl
      | some q =>
        obtain ⟨d, g0, l⟩ := q
        have := (hS.box d g0 l rfl).2.1
        rw [this] at hz
        simp at hz
    subst hB
    simp only [gh2, hj, backKey]
    unfold rowKey
    cases hf : L.find? fun z => z.2.2.ownBlock == some g with
    | none =>
      have := List.find?_eq_none.1 hf z hz
      simp [hg] at this
    | some y =>
      have h1 := List.find?_some hf
      have h2 := List.mem_of_find?_eq_some hf
      rw [← hS.inj z hz y h2 g hg (by simpa using h1)]
      rfl
  refine ⟨hnw.symm, hok.symm, Keeps.refl _ _, hd, hs, hsp, fun g b o hm => (by rw [hhd] at hm; cases hm), htm, fun d l hl => ?_, fun id b hb => ?_, fun g k hk => ?_⟩
  · cases B with
    | none => simp [boxL, look] at hl
    | some q =>
      obtain ⟨d0, g0, l0⟩ := q
      simp only [boxL, look_cons] at hl
      by_cases hdd : d0 = d
      · rw [if_pos hdd] at hl
        cases hl
        subst hdd
        obtain ⟨h1, h2, cs, e, f, t, x, h3, h4, h5⟩ := hS.box d0 g0 l rfl
        refine ⟨cs, e, h3, ?_, ?_⟩
        · obtain ⟨j, hj⟩ := Option.isSome_iff_exists.1 h1
          simp [gh2, hj, backKey]
        · rw [h4]
          exact ex_rel (rd_weak (fun g hg => start_ro (f := f) hg) h5)
      · rw [if_neg hdd] at hl
        simp [look] at hl
  · obtain ⟨v, hv⟩ := look_map hb
    obtain ⟨h1, h2, ⟨rows, h3, h4⟩, h5⟩ := hS.row _ hv
    have hhv : (gh2 ok nw own L B).hv id = v := hvL_mem hS.uniq hv
    refine ⟨fun _ => ⟨rows, by rw [hhv]; exact h3, fun g hg => ?_, els_weak (fun g hg => start_ro hg) h4⟩, fun hw => ?_, h2⟩
    · rw [hhv] at hg
      exact hrowg _ hv g hg
    · rw [show b.w = true from h1] at hw
      cases hw
  · have hk0 := hk
    unfold gh2 at hk
    dsimp only at hk
    cases ho : own g with
    | none => rw [ho] at hk; cases hk
    | some j =>
      rw [ho] at hk
      dsimp only at hk
      refine ⟨.inr (hfr g k hk0), (hh.hown g j ho).2.1, ?_⟩
      have rows : rowKey L g = some k → KeyAt (gh2 ok nw own L B) (boxL B) (rowL L) g k := by
        intro hr
        unfold rowKey at hr
        cases hf : L.find? fun z => z.2.2.ownBlock == some g with
        | none => rw [hf] at hr; cases hr
        | some y =>
          rw [hf] at hr
          cases hr
          have h1 := List.find?_some hf
          have h2 := List.mem_of_find?_eq_some hf
          refine ⟨look_map_mem h2, ?_⟩
          rw [show (gh2 ok nw own L B).hv y.1 = y.2.2 from hvL_mem hS.uniq h2]
          simpa using h1
      cases B with
      | none => have := rows hk; cases k with | bx d => exact this | bl id => exact this | hid => trivial
      | some q =>
        obtain ⟨d0, g0, l0⟩ := q
        simp only [backKey] at hk
        by_cases he : g = g0
        · rw [if_pos he] at hk
          cases hk
          exact ⟨by simp [boxL, look_cons], by simp [gh2, he]⟩
        · rw [if_neg he] at hk
          have := rows hk
          cases k with | bx d => exact this | bl id => exact this | hid => trivial

theorem val_rel {f : Bool} {G : Gh} {bx : List (Nat × List AC)} {bl : List (Nat × Option Blk)} {p : Ty × Bool} {x : p.1.D} {v : Value} (hp : p.2 = true ∨ p.1.n = 1) (h : ValRd w (RO G f) p x v) :
    RelCV G w bx bl (match p.2 with | true => .agg (ex f p.1 x) | false => .c (match ex f p.1 x with | [c] => c | _ => .none)) v := by
  have := exF_rel (f := f) (bx := bx) (bl := bl) (rs := [p]) (x := (x, ())) (vs := [v]) (by
    simp only [flatOk, Bool.and_eq_true, Bool.or_eq_true]
    exact ⟨hp.imp_right fun h => by rw [h]; rfl, trivial⟩) ⟨v, [], rfl, h, rfl⟩
  exact this.1

theorem start_args {ok nw : Nat → Prop} {own : Nat → Option Nat} {Bd : Nat → Prop} (hh : Handed w Bd ok nw own) {g0 : Nat} {u : Value} {pm : PM} : ∀ (i : Nat) (ps : List (Ty × Bool)) (x : Args ps) (vs : List Value), flatOk ps = true → ArgsIn w ok nw own g0 pm i ps x vs u →
    ∃ L B, StartOk w ok nw own L B ∧ (exP pm i ps x).2.2.1 = rowL L ∧ (exP pm i ps x).2.2.2 = boxL B ∧ All2 (RelCV (gh2 ok nw own L B) w (boxL B) (rowL L)) (exP pm i ps x).1 vs ∧ RelCV (gh2 ok nw own L B) w (boxL B) (rowL L) (exP pm i ps x).2.1 u ∧
      (pm = .rd → L = [] ∧ B = none)
  | 0, [], x, vs, _, h => h.elim
  | _ + 1, [], x, vs, _, h => h.elim
  | 0, p :: ps, x, vs, hf, h => by
    obtain ⟨vs', rfl, hsp, hrest⟩ := h
    simp only [flatOk, Bool.and_eq_true, Bool.or_eq_true] at hf
    have hp : p.2 = true ∨ p.1.n = 1 := hf.1.imp_right beq_nat
    have rest : ∀ L B, All2 (RelCV (gh2 ok nw own L B) w (boxL B) (rowL L)) (exF false ps x.2) vs' := fun L B =>
      exF_rel hf.2 (args_weak (fun g hg => start_ro ⟨hh.hok g hg, .inr ⟨rfl, hg⟩⟩) hrest)
    cases pm with
    | rd =>
      have hv : ValRd w ok p x.1 u := hsp
      have h1 : RelCV (gh2 ok nw own [] none) w (boxL none) (rowL []) (exSp .rd p x.1).1 u := val_rel (f := false) hp (by
        obtain ⟨cs, h1, h2⟩ := hv
        exact ⟨cs, rd_weak (fun g hg => start_ro (f := false) ⟨hh.hok g hg, .inr ⟨rfl, hg⟩⟩) h1, h2⟩)
      exact ⟨[], none, ⟨fun z hz => by simp at hz, fun z hz => by simp at hz, fun z hz => by simp at hz, fun d g l he => by cases he⟩, rfl, rfl, ⟨h1, rest [] none⟩, h1, fun _ => ⟨rfl, rfl⟩⟩
    | own f =>
      have hv : ValFr w (fun g => own g = none ∧ (nw g ∨ (f = false ∧ ok g))) own p x.1 0 u := hsp
      obtain ⟨L, hF, hcv⟩ := ex1_fr (id := 62500) (f := f) hv hp
      have hS : StartOk w ok nw own L none := by
        refine ⟨fun z hz => ?_, fun z hz z' hz' g hg hg' => ?_, hF.uniq, fun d g l he => by cases he⟩
        · obtain ⟨h1, h2, h3⟩ := hF.rows z hz
          refine ⟨h3.wr, h3.pos, ?_, fun g hg => by rw [h3.blk g hg]; rfl⟩
          obtain ⟨rows, h4, h5⟩ := h3.row
          exact ⟨rows, h4, by rw [h3.nf]; exact h5⟩
        · obtain ⟨h1, _, h3⟩ := hF.rows z hz
          obtain ⟨h4, _, h6⟩ := hF.rows z' hz'
          have h7 := h3.blk g hg
          have h8 := h6.blk g hg'
          rw [h7] at h8
          have := Option.some.inj h8
          exact hF.uniq z hz z' hz' (by omega)
      have hrel : ∀ c v, CellFr L c v → RelC (gh2 ok nw own L none) w (boxL none) (rowL L) c v := by
        intro c v hc
        cases c with
        | own i len =>
          cases len with
          | some l => exact hc.elim
          | none =>
            obtain ⟨b, hb⟩ := hc
            have hhv : (gh2 ok nw own L none).hv i = v := hvL_mem hS.uniq hb
            refine ⟨look_map_mem hb, ?_, hhv.symm⟩
            rw [hhv]
            obtain ⟨_, _, ⟨rows, ho, _⟩, _⟩ := hS.row _ hb
            rcases ho.2 with ⟨he, _⟩ | ⟨g', cap, cur, he, _⟩
            · exact ⟨_, _, _, he⟩
            · exact ⟨_, _, _, he⟩
        | int k n => exact hc
        | bool b => exact hc
        | str s => exact hc
        | _ => exact hc.elim
      exact ⟨L, none, hS, hF.q, rfl, ⟨relCV_of hrel hcv, rest L none⟩, relCV_of hrel hcv, fun h => by cases h⟩
    | box =>
      obtain ⟨hu, hown, cs, e, hh', hrd⟩ := (show u = .pointer (some ⟨g0, 0, none⟩) ∧ (own g0).isSome = true ∧ ∃ cs e, w.heap[g0]? = some (.cells cs e (0, 0)) ∧ Rd w ok p.1 x.1 cs.toList from hsp)
      have hrel : RelCV (gh2 ok nw own [] (some (4000000, g0, ex false p.1 x.1))) w (boxL (some (4000000, g0, ex false p.1 x.1))) (rowL []) (.c (.ptr 4000000 0)) u := ⟨by simp [boxL, look_cons], hu⟩
      refine ⟨[], some (4000000, g0, ex false p.1 x.1), ⟨fun z hz => by simp at hz, fun z hz => by simp at hz, fun z hz => by simp at hz, fun d g l he => ?_⟩, rfl, rfl, ⟨hrel, rest _ _⟩, hrel, fun h => by cases h⟩
      cases he
      exact ⟨hown, rfl, cs, e, false, p.1, x.1, hh', rfl, rd_weak (fun g hg => ⟨hh.hok g hg, .inr ⟨rfl, hg⟩⟩) hrd⟩
    | cur =>
      obtain ⟨hu, hown, cs, e, hh', hrd⟩ := (show u = .pointer (some ⟨g0, 0, none⟩) ∧ (own g0).isSome = true ∧ ∃ cs e, w.heap[g0]? = some (.cells cs e (0, 0)) ∧ Rd w (fun g => own g = none ∧ nw g) p.1 x.1 cs.toList from hsp)
      have hrel : RelCV (gh2 ok nw own [] (some (4000000, g0, ex true p.1 x.1))) w (boxL (some (4000000, g0, ex true p.1 x.1))) (rowL []) (.c (.ptr 4000000 0)) u := ⟨by simp [boxL, look_cons], hu⟩
      refine ⟨[], some (4000000, g0, ex true p.1 x.1), ⟨fun z hz => by simp at hz, fun z hz => by simp at hz, fun z hz => by simp at hz, fun d g l he => ?_⟩, rfl, rfl, ⟨hrel, rest _ _⟩, hrel, fun h => by cases h⟩
      cases he
      exact ⟨hown, rfl, cs, e, true, p.1, x.1, hh', rfl, rd_weak (fun g hg => ⟨hg.1, .inl hg.2⟩) hrd⟩
  | i + 1, p :: ps, x, vs, hf, h => by
    obtain ⟨v, vs', rfl, hv, hrest⟩ := h
    simp only [flatOk, Bool.and_eq_true, Bool.or_eq_true] at hf
    have hp : p.2 = true ∨ p.1.n = 1 := hf.1.imp_right beq_nat
    obtain ⟨L, B, h1, h2, h3, h4, h5, h6⟩ := start_args hh i ps x.2 vs' hf.2 hrest
    refine ⟨L, B, h1, h2, h3, ⟨val_rel (f := false) hp ?_, h4⟩, h5, h6⟩
    obtain ⟨cs, k1, k2⟩ := hv
    exact ⟨cs, rd_weak (fun g hg => start_ro (f := false) ⟨hh.hok g hg, .inr ⟨rfl, hg⟩⟩) k1, k2⟩

theorem exP_len {pm : PM} : ∀ (i : Nat) (ps : List (Ty × Bool)) (x : Args ps), i < ps.length → (exP pm i ps x).1.length = ps.length
  | 0, p :: ps, x, _ => by
    have : ∀ {f : Bool} {rs : List (Ty × Bool)} {y : Args rs}, (exF f rs y).length = rs.length := by
      intro f rs
      induction rs with
      | nil => intro y; rfl
      | cons a l ih => intro y; simp [exF, ih]
    simp [exP, this]
  | i + 1, p :: ps, x, h => by
    have := exP_len (pm := pm) i ps x.2 (by simpa using h)
    simp [exP, this]
  | 0, [], _, h => by simp at h
  | _ + 1, [], _, h => by simp at h

/-! ### The end -/
theorem ResFr.own_mono {w : World} {okE okE' : Nat → Prop} {own own' : Nat → Option Nat} (ho : ∀ g j, own g = some j → own' g = some j) (he : ∀ g, okE g → okE' g) : ∀ {rs : List (Ty × Bool)} {x : Args rs} {j : Nat} {vs : List Value}, ResFr w okE own rs x j vs → ResFr w okE' own' rs x j vs := by
  have frc : ∀ {t : Ty} {x : t.D} {j : Nat} {cs : List Value}, FrC w okE own t x j cs → FrC w okE' own' t x j cs := by
    intro t
    induction t with
    | int k => exact fun h => h
    | bool => exact fun h => h
    | str => exact fun h => h
    | unit => exact fun h => h
    | pair a b iha ihb =>
      intro x j cs h
      obtain ⟨c1, c2, e, h1, h2⟩ := h
      exact ⟨c1, c2, e, iha h1, ihb h2⟩
    | sl e t _ =>
      intro x j cs h
      obtain ⟨v, rows, h1, h2, h3, h4, h5⟩ := h
      exact ⟨v, rows, h1, h2, h3, fun g hg => ho g _ (h4 g hg), els_weak he h5⟩
  intro rs
  induction rs with
  | nil => exact fun h => h
  | cons a l ih =>
    intro x j vs h
    obtain ⟨v, vs', e, ⟨cs, h1, h2⟩, h3⟩ := h
    exact ⟨v, vs', e, ⟨cs, frc h1, h2⟩, ih h3⟩

/-- What no row is handed back in: read only. -/
theorem agg_ro (h : Inv w0 G st a w) {p : Ty × Bool} {c : List AC} {cs : Array Value} (hrel : All2 (RelC G w st.bx st.bl) c cs.toList) (hno : noOwn c = true) {y : p.1.D} (hi : imV st p (.agg c) = some y) {ok : Nat → Prop}
    (hok : ∀ f e t xs, AC.ro f e t xs ∈ c → ∀ g, RO G f g → ok g) : ArgsRd w ok [p] (y, ()) [.agg cs] := by
  refine ⟨_, [], rfl, imV_rd h (x := .agg c) (u := .agg cs) ⟨cs, rfl, hrel⟩ (fun t c' v xs hm hr hd => ?_) hi, rfl⟩
  refine slData_rd h hr hd (fun id len b hcc _ => ?_) (fun f e u ys hcc => ?_)
  · subst hcc
    exact absurd hm (noOwn_mem hno id len)
  · subst hcc
    exact hok f e u ys hm

theorem cvCells_app (l m : List CV) : cvCells (l ++ m) = cvCells l ++ cvCells m := by
  induction l with
  | nil => rfl
  | cons c l ih => simp [cvCells, ih]

theorem res2_of_fin (h' : Inv w0 G st a w) {w1 : World} {ok nw : Nat → Prop} {own : Nat → Option Nat} {g0 : Nat} {u : Value} (hnw : G.nw = nw) (hok : G.ok = ok) (hsp : w0.pv = u) (hloc : ∀ g k, G.own g = some k → w1.heap.size ≤ g ∨ (own g).isSome = true)
    {con : Con2} (hrd : con.pm = .rd → ∀ g k, G.own g = some k → w1.heap.size ≤ g) (hbox : con.pm = .box ∨ con.pm = .cur → u = .pointer (some ⟨g0, 0, none⟩)) {l : List CV} {us : List Value} (hus : All2 (RelCV G w st.bx st.bl) l us) {r : Args con.rs × Args con.qs}
    (hfin : finQ st con.pm con.rs con.qs con.m l = some r) : Res2 con w1 w ok nw own g0 u r us := by
  obtain ⟨ps, i, pm, rs, m, qs, g⟩ := con
  dsimp only at *
  subst hnw
  subst hok
  have hE : ∀ (own' : Nat → Option Nat), (∀ g, G.own g = none → own' g = none) → ∀ g, RO G (m2 m) g → own' g = none ∧ (G.nw g ∨ (m2 m = false ∧ G.ok g)) := fun own' h g hg => ⟨h g hg.1, hg.2⟩
  unfold finQ at hfin
  cases pm with
  | rd =>
    dsimp only at hfin
    split at hfin
    · split at hfin
      · rename_i fl hm
        split at hfin
        · rename_i _ b
          split at hfin
          · rename_i c hc
            split at hfin
            · rename_i hck
              rw [Bool.and_eq_true] at hck
              split at hfin
              · rename_i r0 hr0
                cases hfin
                obtain ⟨cs, e, hh, hown, hrel⟩ := h'.bx b c hc
                obtain ⟨v, rfl⟩ : ∃ v, us = [v] := by
                  cases us with
                  | nil => exact hus.elim
                  | cons v us =>
                    cases us with
                    | nil => exact ⟨v, rfl⟩
                    | cons _ _ => exact hus.2.elim
                have hv : v = .pointer (some ⟨G.hb b, 0, none⟩) := hus.1.2
                have hsz := hrd rfl _ _ hown
                refine ⟨fun g => if g = G.hb b then some 0 else none, fun g j hg => ?_, trivial, ?_⟩
                · dsimp only at hg
                  split at hg
                  · rename_i he; exact .inl (he ▸ hsz)
                  · cases hg
                · have key : ArgsRd w (fun g => (if g = G.hb b then some 0 else none) = (none : Option Nat) ∧ (G.nw g ∨ (fl = false ∧ G.ok g))) rs r0 [.agg cs] := by
                    match rs, r0, hr0 with
                    | [p], r0, hr0 =>
                      simp only [imVs] at hr0
                      split at hr0
                      · rename_i y hy
                        cases hr0
                        refine agg_ro h' hrel hck.2 hy fun f e t xs hm g hg => ⟨?_, ?_⟩
                        · have : g ≠ G.hb b := by
                            rintro rfl
                            have := hg.1
                            rw [hown] at this
                            cases this
                          simp [this]
                        · have := resOk_mem _ hck.1 _ hm
                          refine hg.2.imp_right fun h => ⟨?_, h.2⟩
                          cases fl with
                          | false => rfl
                          | true =>
                            have hf := this rfl
                            rw [hf] at h
                            cases h.1
                      · cases hr0
                    | [], _, hr0 => simp [imVs] at hr0
                    | _ :: _ :: _, _, hr0 =>
                      simp only [imVs] at hr0
                      split at hr0 <;> cases hr0
                  unfold rdM at hm
                  split at hm
                  · cases hm
                    exact ⟨G.hb b, cs, e, by rw [hv], hsz, by simp, hh, args_weak (fun g hg => ⟨hg.1, hg.2.elim (fun h => h) fun h => by cases h.1⟩) key⟩
                  · cases hm
                    exact ⟨G.hb b, cs, e, by rw [hv], hsz, by simp, hh, args_weak (fun g hg => ⟨hg.1, hg.2.imp_right fun h => h.2⟩) key⟩
                  · cases hm
              · cases hfin
            · cases hfin
          · cases hfin
        · cases hfin
      · cases hfin
    · cases hfin
  | own f =>
    dsimp only at hfin
    split at hfin
    · rename_i hm
      rw [Bool.or_eq_true] at hm
      have hm' : m = 2 ∨ m = 3 := hm.imp beq_nat beq_nat
      split at hfin
      · split at hfin
        · rename_i hck
          rw [Bool.and_eq_true] at hck
          split at hfin
          · rename_i r0 hr0
            cases hfin
            have hres := (res_own hm' (hE (ownOf G (cvCells l)) fun g hg => by simp [ownOf, hg]) h' (cvCells l) [] rs l us r0 hus (pre := []) (seen := []) (by simp) (fun id len hm => by simp at hm) (by rw [List.append_nil]; exact hck.1) hck.2 hr0).1
            refine ⟨ownOf G (cvCells l), fun g j hg => ?_, rfl, ?_⟩
            · unfold ownOf at hg
              split at hg
              · rename_i id hid; exact hloc g _ hid
              · cases hg
            · rcases hm' with rfl | rfl <;> exact hres
          · cases hfin
        · cases hfin
      · rename_i q
        split at hfin
        · rename_i c hc
          split at hfin
          · rename_i hck
            simp only [Bool.and_eq_true] at hck
            obtain ⟨⟨hk1, hk2⟩, hk3⟩ := hck
            split at hfin
            · rename_i r0 y0 hr0 hy0
              cases hfin
              have hu : RelCV G w st.bx st.bl c u := by
                have := h'.sp
                rw [hc, hsp] at this
                exact this
              rw [cvCells_app] at hk1
              obtain ⟨hres, seen', h1, h2, h3⟩ := res_own hm' (hE (ownOf G (cvCells l ++ cvCells [c])) fun g hg => by simp [ownOf, hg]) h' (cvCells l ++ cvCells [c]) (cvCells [c]) rs l us r0 hus (pre := []) (seen := []) (by simp) (fun id len hm => by simp at hm) hk1 hk2 hr0
              obtain ⟨hres2, _⟩ := res_own hm' (hE (ownOf G (cvCells l ++ cvCells [c])) fun g hg => by simp [ownOf, hg]) h' (cvCells l ++ cvCells [c]) [] [q] [c] [u] y0 ⟨hu, trivial⟩ (pre := cvCells l) (seen := seen') (by simp) (fun id len hm => h2 id len (by simpa using hm)) (by rw [List.append_nil]; exact h1) hk3 hy0
              rw [h3] at hres2
              refine ⟨ownOf G (cvCells l ++ cvCells [c]), fun g j hg => ?_, hres2, ?_⟩
              · unfold ownOf at hg
                split at hg
                · rename_i id hid; exact hloc g _ hid
                · cases hg
              · rcases hm' with rfl | rfl <;> exact hres
            · cases hfin
          · cases hfin
        · cases hfin
      · cases hfin
    · cases hfin
  | box =>
    dsimp only at hfin
    generalize hsv : st.sp = sv at hfin
    split at hfin
    · rename_i b q
      have hspb := hsv
      split at hfin
      · rename_i c hc
        split at hfin
        · rename_i hck
          simp only [Bool.and_eq_true] at hck
          obtain ⟨⟨⟨hno, hk1⟩, hk2⟩, hk3⟩ := hck
          split at hfin
          · rename_i r0 y0 hr0 hy0
            cases hfin
            obtain ⟨cs, e, hh, hown, hrel⟩ := h'.bx b c hc
            have hg0 : G.hb b = g0 := by
              have h1 := h'.sp
              rw [hspb, hsp, hbox (.inl rfl)] at h1
              have h2 : Value.pointer (some ⟨g0, 0, none⟩) = .pointer (some ⟨G.hb b, 0, none⟩) := h1.2
              injection h2 with h2
              injection h2 with h2
              injection h2 with h2
              exact h2.symm
            subst hg0
            have nOwn : ∀ g, G.own g = none → g ≠ G.hb b := by
              rintro g hg rfl
              rw [hown] at hg
              cases hg
            by_cases hm : m ≤ 1
            · -- read only
              refine ⟨fun g => if g = G.hb b then some (nOf rs) else none, fun g j hg => ?_, ⟨⟨nOf rs, by simp, Nat.le_refl _⟩, cs, e, hh, ?_⟩, ?_⟩
              · dsimp only at hg
                split at hg
                · rename_i he; exact he ▸ hloc _ _ hown
                · cases hg
              · refine agg_ro h' hrel hno hy0 fun f e t xs hm g hg => ⟨by simp [nOwn g hg.1], hg.2.imp_right fun h => h.2⟩
              · have hm' : m = 0 ∨ m = 1 := by omega
                have hbl : ∀ g id, G.own g = some (.bl id) → g ≠ G.hb b := by
                  rintro g id hg rfl
                  rw [hown] at hg
                  cases hg
                rcases hm' with rfl | rfl
                · exact res_ro h' hus hk1 hr0 (fun f g _ hg => ⟨by simp [nOwn g hg.1], hg.2.imp_right fun h => h.2⟩) (fun g id hg => ⟨by simp [hbl g id hg], .inl (h'.ownNw hg)⟩) (.inl rfl)
                · exact res_ro h' hus hk1 hr0 (fun f g hf hg => ⟨by simp [nOwn g hg.1], hg.2.elim (fun h => h) fun h => by rw [hf (by simp)] at h; cases h.1⟩) (fun g id hg => ⟨by simp [hbl g id hg], h'.ownNw hg⟩) (.inr rfl)
            · have hm' : m = 2 ∨ m = 3 := by
                have := ble_le hk3
                omega
              have hk2' : rowsOk st rs l = true := by rcases hm' with rfl | rfl <;> exact hk2
              have hres := (res_own hm' (okE := fun g => G.own g = none ∧ (G.nw g ∨ (m2 m = false ∧ G.ok g))) (fun g hg => ⟨hg.1, hg.2⟩) h' (cvCells l) [] rs l us r0 hus (pre := []) (seen := []) (by simp) (fun id len hm => by simp at hm) (by rw [List.append_nil]; exact hk1) hk2' hr0).1
              have hnone : ∀ g, G.own g = none → (if g = G.hb b then some (nOf rs) else ownOf G (cvCells l) g) = none := by
                intro g hg
                rw [if_neg (nOwn g hg)]
                simp [ownOf, hg]
              refine ⟨fun g => if g = G.hb b then some (nOf rs) else ownOf G (cvCells l) g, fun g j hg => ?_, ⟨⟨nOf rs, by simp, Nat.le_refl _⟩, cs, e, hh, ?_⟩, ?_⟩
              · dsimp only at hg
                split at hg
                · rename_i he; exact he ▸ hloc _ _ hown
                · unfold ownOf at hg
                  split at hg
                  · rename_i id hid; exact hloc g _ hid
                  · cases hg
              · refine agg_ro h' hrel hno hy0 fun f e t xs hm g hg => ⟨hnone g hg.1, hg.2.imp_right fun h => h.2⟩
              · have hfin2 := ResFr.own_mono (own' := fun g => if g = G.hb b then some (nOf rs) else ownOf G (cvCells l) g) (okE' := fun g => (if g = G.hb b then some (nOf rs) else ownOf G (cvCells l) g) = none ∧ (G.nw g ∨ (m2 m = false ∧ G.ok g))) (fun g j hg => by
                  have : g ≠ G.hb b := by
                    rintro rfl
                    simp [ownOf, hown] at hg
                  simp [this, hg]) (fun g hg => ⟨hnone g hg.1, hg.2⟩) hres
                rcases hm' with rfl | rfl <;> exact hfin2
          · cases hfin
        · cases hfin
      · cases hfin
    · cases hfin
  | cur =>
    dsimp only at hfin
    generalize hsv : st.sp = sv at hfin
    split at hfin
    · rename_i b q
      have hspb := hsv
      split at hfin
      · rename_i c hc
        split at hfin
        · rename_i hck
          simp only [Bool.and_eq_true] at hck
          obtain ⟨⟨⟨⟨hno, hna⟩, hk1⟩, hk2⟩, hk3⟩ := hck
          split at hfin
          · rename_i r0 y0 hr0 hy0
            cases hfin
            obtain ⟨cs, e, hh, hown, hrel⟩ := h'.bx b c hc
            have hg0 : G.hb b = g0 := by
              have h1 := h'.sp
              rw [hspb, hsp, hbox (.inr rfl)] at h1
              have h2 : Value.pointer (some ⟨g0, 0, none⟩) = .pointer (some ⟨G.hb b, 0, none⟩) := h1.2
              injection h2 with h2
              injection h2 with h2
              injection h2 with h2
              exact h2.symm
            subst hg0
            have nOwn : ∀ g, G.own g = none → g ≠ G.hb b := by
              rintro g hg rfl
              rw [hown] at hg
              cases hg
            have hflag : ∀ f e t xs, AC.ro f e t xs ∈ c → f = true := fun f e t xs hm => newAll_ro hna f e t xs hm
            by_cases hm : m ≤ 1
            · refine ⟨fun g => if g = G.hb b then some (nOf rs) else none, fun g j hg => ?_, ⟨⟨nOf rs, by simp, Nat.le_refl _⟩, cs, e, hh, ?_⟩, ?_⟩
              · dsimp only at hg
                split at hg
                · rename_i he; exact he ▸ hloc _ _ hown
                · cases hg
              · refine agg_ro h' hrel hno hy0 fun f e t xs hm g hg => ⟨by simp [nOwn g hg.1], hg.2.elim (fun h => h) fun h => by rw [hflag f e t xs hm] at h; cases h.1⟩
              · have hm' : m = 0 ∨ m = 1 := by omega
                have hbl : ∀ g id, G.own g = some (.bl id) → g ≠ G.hb b := by
                  rintro g id hg rfl
                  rw [hown] at hg
                  cases hg
                rcases hm' with rfl | rfl
                · exact res_ro h' hus hk1 hr0 (fun f g _ hg => ⟨by simp [nOwn g hg.1], hg.2.imp_right fun h => h.2⟩) (fun g id hg => ⟨by simp [hbl g id hg], .inl (h'.ownNw hg)⟩) (.inl rfl)
                · exact res_ro h' hus hk1 hr0 (fun f g hf hg => ⟨by simp [nOwn g hg.1], hg.2.elim (fun h => h) fun h => by rw [hf (by simp)] at h; cases h.1⟩) (fun g id hg => ⟨by simp [hbl g id hg], h'.ownNw hg⟩) (.inr rfl)
            · have hm' : m = 2 := by
                have := ble_le hk3
                omega
              subst hm'
              have hres := (res_own (.inl rfl) (okE := fun g => G.own g = none ∧ (G.nw g ∨ (m2 2 = false ∧ G.ok g))) (fun g hg => ⟨hg.1, hg.2⟩) h' (cvCells l) [] rs l us r0 hus (pre := []) (seen := []) (by simp) (fun id len hm => by simp at hm) (by rw [List.append_nil]; exact hk1) hk2 hr0).1
              have hnone : ∀ g, G.own g = none → (if g = G.hb b then some (nOf rs) else ownOf G (cvCells l) g) = none := by
                intro g hg
                rw [if_neg (nOwn g hg)]
                simp [ownOf, hg]
              refine ⟨fun g => if g = G.hb b then some (nOf rs) else ownOf G (cvCells l) g, fun g j hg => ?_, ⟨⟨nOf rs, by simp, Nat.le_refl _⟩, cs, e, hh, ?_⟩, ?_⟩
              · dsimp only at hg
                split at hg
                · rename_i he; exact he ▸ hloc _ _ hown
                · unfold ownOf at hg
                  split at hg
                  · rename_i id hid; exact hloc g _ hid
                  · cases hg
              · refine agg_ro h' hrel hno hy0 fun f e t xs hm g hg => ⟨hnone g hg.1, hg.2.elim (fun h => h) fun h => by rw [hflag f e t xs hm] at h; cases h.1⟩
              · exact ResFr.own_mono (own' := fun g => if g = G.hb b then some (nOf rs) else ownOf G (cvCells l) g) (okE' := fun g => (if g = G.hb b then some (nOf rs) else ownOf G (cvCells l) g) = none ∧ (G.nw g ∨ (m2 2 = false ∧ G.ok g))) (fun g j hg => by
                  have : g ≠ G.hb b := by
                    rintro rfl
                    simp [ownOf, hown] at hg
                  simp [this, hg]) (fun g hg => ⟨hnone g hg.1, hg.2⟩) hres
          · cases hfin
        · cases hfin
      · cases hfin
    · cases hfin

/-- **A FUNCTION THAT WRITES TO WHAT IT IS HANDED KEEPS ITS CONTRACT.** -/
theorem conOk2_of_run {T : Tab} (hC : ∀ f con, C f = some con → AnyOk P T f con) {f : FuncId} {fn : Func} {con : Con2} (hf : P.funcs[f]? = some fn) (hn : (fn.name == "runtime.NumGoroutine") = false) (hb : fn.body.isNone = false) (hq : QsOk con)
    (H : Nat → Option Hint) (hrun : ∀ x r, con.g x = some r → ∃ N, runF2 P C (Par.std N) H fn con.ps con.i con.pm con.rs con.qs con.m x = some r) : ConOk2 P T f con := by
  refine ⟨⟨fn, hf, hn, hb⟩, hq, fun x r hg w hTw ok nw own g0 vs u hh hin => ?_⟩
  obtain ⟨N, hr⟩ := hrun x r hg
  obtain ⟨hc, hr⟩ := ck_some hr
  simp only [Bool.and_eq_true] at hc
  obtain ⟨⟨⟨hc1, hc2⟩, hc3⟩, hc4⟩ := hc
  obtain ⟨c, hbody⟩ : ∃ c, fn.body = some c := by
    cases h : fn.body with
    | none => rw [h] at hb; cases hb
    | some c => exact ⟨c, rfl⟩
  have hcode : codeOf fn = c := by simp [codeOf, hbody]
  rw [hcode] at hr
  obtain ⟨L, B, hS, hL, hB, hrel, hsp, hrdL⟩ := start_args hh con.i con.ps x vs hc3 hin
  have hlen : vs.length = con.ps.length := by
    rw [← exP_len (pm := con.pm) con.i con.ps x (blt_lt hc2)]
    exact hrel.len.symm
  have hfr0 : ∀ g, (∃ k, (gh2 ok nw own L B).own g = some k) → ∃ j, own g = some j := by
    rintro g ⟨k, hk⟩
    simp only [gh2] at hk
    cases ho : own g with
    | none => rw [ho] at hk; cases hk
    | some j => exact ⟨j, rfl⟩
  have hfr1 : ∀ g, (∃ k, (gh2 ok nw own L B).own g = some k) → nw g := by
    intro g hg
    obtain ⟨j, hj⟩ := hfr0 g hg
    exact (hh.hown g j hj).1
  let R : Root := { w := w, ok := ok, nw := nw, fr := fun g => ∃ k, (gh2 ok nw own L B).own g = some k, hnw := hh.hnew, pv := u, hfr := hfr1 }
  have hfrown : ∀ g, R.fr g → ∃ j, own g = some j := hfr0
  have hstart : Inv R (gh2 ok nw own L B) (start2 fn.ntmps con.pm con.i con.ps x) { tmps := vs.toArray ++ Array.replicate (fn.ntmps - vs.toArray.size) undef, defers := [] } w := by
    unfold start2
    rw [hL, hB]
    refine start_inv (R := R) hh rfl rfl rfl rfl (fun g k hk => Exists.intro k hk) hS rfl ?_ hsp (fun t v hv => tm_rel hrel hv)
    have := ble_le hc1
    simp [hlen]
    omega
  refine calls_of_wp hf hbody (run_sound (w0 := R) (fun f con hf => (hC f con hf).at hTw fun b hb => by
    obtain ⟨j, hj⟩ := hfrown b hb
    exact (hh.hown b j hj).2.2) H c (hstart.setRob (robOf H)) hr fun e G' st' a' w' h' hr' => ?_)
  have post : ∀ e, e = Exit.normal ∨ e = Exit.ret → (match resCVs P st' fn.results.toList with
      | some l => finQ st' con.pm con.rs con.qs con.m l
      | none => none) = some r → bodyPost P fn (fun e w' => ∃ us, e = .returned (retVal us) ∧ Res2 con w w' ok nw own g0 u r us ∧ Keeps (fun g => (own g).isSome = true) w w') e a' w' := by
    intro e he hr'
    split at hr'
    · rename_i l hl
      obtain ⟨us, hus, hres⟩ := run_results (P := P) h' hl
      have hloc : ∀ g k, G'.own g = some k → w.heap.size ≤ g ∨ (own g).isSome = true := by
        intro g k hk
        rcases (h'.own g k hk).1 with h1 | h1
        · exact .inl h1
        · obtain ⟨j, hj⟩ := hfrown g h1
          exact .inr (by rw [hj]; rfl)
      have hR : ∃ us', Ending.returned (retVal us) = .returned (retVal us') ∧ Res2 con w w' ok nw own g0 u r us' ∧ Keeps (fun g => (own g).isSome = true) w w' := by
        refine ⟨us, rfl, res2_of_fin h' h'.nw h'.rok rfl hloc (fun hp g k hk => ?_) (fun hp => ?_) hus hr', ?_⟩
        · rcases (h'.own g k hk).1 with h1 | h1
          · exact h1
          · obtain ⟨k', hk'⟩ := h1
            obtain ⟨e1, e2⟩ := hrdL hp
            subst e1
            subst e2
            simp only [gh2, backKey, rowKey] at hk'
            split at hk' <;> cases hk'
        · have : ∀ (i : Nat) (ps : List (Ty × Bool)) (x : Args ps) (vs : List Value), ArgsIn w ok nw own g0 con.pm i ps x vs u → u = .pointer (some ⟨g0, 0, none⟩) := by
            intro i
            induction i with
            | zero =>
              intro ps x vs h
              cases ps with
              | nil => exact h.elim
              | cons p ps =>
                obtain ⟨vs', _, h1, _⟩ := h
                rcases hp with hp | hp <;> rw [hp] at h1 <;> exact h1.1
            | succ i ih =>
              intro ps x vs h
              cases ps with
              | nil => exact h.elim
              | cons p ps =>
                obtain ⟨v, vs', _, _, h1⟩ := h
                exact ih ps x.2 vs' h1
          exact this _ _ _ _ hin
        · exact ⟨h'.below.os, h'.below.tape, h'.below.output, h'.below.size, fun k hk hf => h'.below.block k hk fun hfr => hf (by
            obtain ⟨j, hj⟩ := hfrown k hfr
            rw [hj]; rfl)⟩
      rcases he with rfl | rfl
      · exact bodyPost_end hres h'.defers hR
      · exact bodyPost_ret hres h'.defers hR
    · cases hr'
  cases e with
  | norm => exact post .normal (.inl rfl) hr'
  | ret => exact post .ret (.inr rfl) hr'
  | exit j => cases hr'
end
end Go.Am
