/- Calls that write to what they are handed. No condition. -/
import Derived.Test.YtkkgagllehdhhaaGreatDoorAmCall
set_option linter.unusedVariables false
set_option linter.unusedSimpArgs false
namespace Go.Am
open Go.RowKit
section
variable {P : Program} {w0 : Root} {w : World} {G : Gh} {st : St} {a : Act} {α : Type} {k : St → Option α} {r : α} {K : Act → World → Prop} {Q : Exit → Act → World → Prop} {o : Oper}

theorem run_call {f : FuncId} (hf : FnOk P f) {args : Array Operand} {ts : Array TypeId} (ho : o.op = .call { callee := .value (.func f), args := args, argTypes := ts }) :
    (execOp a.eval o).run P w = .ok (.enter f (args.map a.eval)) w := by
  obtain ⟨fn, h1, h2, h3⟩ := hf
  unfold execOp
  rw [ho]
  have hn : ¬ fn.name = "runtime.NumGoroutine" := by simpa using h2
  have hb : ¬ fn.body = none := by intro e; rw [e] at h3; cases h3
  simp [resolve, Act.eval, Deferred.ofValue, invoke, callFunc, h1, hn, hb]

theorem sameData_freeze : ∀ (l : List AC) (st : St), SameData st (st.freeze l)
  | [], st => .refl st
  | c :: l, st => (sameData_freeze1 st c).trans (sameData_freeze l (st.freeze1 c))

theorem frozen_rd' {G' : Gh} {l : List AC} (h' : Inv w0 G' (st.freeze l) a w) {nf : Bool} (ho : nf = true → ownNew st l = true) (hn : nf = true → newAll l = true) :
    ∀ t c v xs, c ∈ l → RelC G' w (st.freeze l).bx (st.freeze l).bl c v → slData (st.freeze l) t c = some xs → ∀ e, Rd w (RO G' nf) (.sl e t) xs [v] := by
  intro t c v xs hm hr hd e
  refine slData_rd h' hr hd (fun id len b hc hl => ?_) (fun f e u ys hc => ?_) e
  · subst hc
    have hw : b.w = false := by
      rcases (sameData_freeze l st).bl id with h1 | ⟨b0, h1, h2⟩
      · have := freeze_mem l st id len b hm (h1.symm.trans hl)
        rw [hl] at this
        have := Option.some.inj (Option.some.inj this)
        rw [this]
      · rw [hl] at h2
        have := Option.some.inj (Option.some.inj h2)
        rw [this]
    refine ⟨fun g hg => hg.weak fun hnf => ?_, fun hw' => by rw [hw] at hw'; cases hw'⟩
    obtain ⟨b0, hb0, hf⟩ := ownNew_f (ho hnf) id len hm
    have := freeze_mem l st id len b0 hm (blk_some hb0)
    rw [hl] at this
    cases this
    exact hf
  · subst hc
    exact fun g hg => hg.weak fun hnf => newAll_ro (hn hnf) f e u ys hm

theorem evc_same {st' : St} (h : st'.tm = st.tm) (x : Operand) : st'.evc x = st.evc x := by
  have : st'.ev x = st.ev x := by
    cases x with
    | tmp t =>
      show st'.get t = st.get t
      unfold St.get
      rw [h]
    | _ => rfl
  unfold St.evc
  rw [this]
theorem im1_same {st' : St} (h : SameData st st') (p : Ty × Bool) (o : Operand) : im1 st' p o = im1 st p o := by
  unfold im1 imV
  rw [evc_same h.tm]
  split
  · rw [im_same h]
  · rw [im_same h]
  · rfl
theorem imArgs_same {st' : St} (h : SameData st st') : ∀ (ps : List (Ty × Bool)) (os : List Operand), imArgs st' ps os = imArgs st ps os
  | [], [] => rfl
  | [], _ :: _ => rfl
  | _ :: _, [] => rfl
  | p :: ps, o :: os => by
    simp only [imArgs]
    rw [im1_same h]
    split
    · rw [imArgs_same h ps os]
    · rfl
theorem callArgs_same {st' : St} (h : SameData st st') : ∀ (os : List Operand), callArgs st' os = callArgs st os
  | [] => rfl
  | o :: os => by
    simp only [callArgs]
    rw [evc_same h.tm, callArgs_same h os]


def KeyAt (G : Gh) (bx : List (Nat × List AC)) (bl : List (Nat × Option Blk)) (g : Nat) : Key → Prop
  | .bx d => (look bx d).isSome = true ∧ g = G.hb d
  | .bl id => (look bl id).isSome = true ∧ (G.hv id).ownBlock = some g
  | .hid => False
/-- Memory turned: what was handed over, what is new. -/
theorem Inv.turn (h : Inv w0 G st a w) {w' : World} {fr : Nat → Prop} (hK : Keeps fr w w') (hfr : ∀ g, fr g → (G.own g).isSome = true) (hfrh : ∀ g, fr g → G.own g ≠ some .hid)
    {G2 : Gh} {bx2 : List (Nat × List AC)} {bl2 : List (Nat × Option Blk)} (hnw : G2.nw = G.nw) (hok : G2.ok = G.ok) (hold : ∀ g, g < w.heap.size → ¬ fr g → G2.own g = G.own g)
    (hs : StLe G st.bx st.bl G2 bx2 bl2)
    (hbx : Ext G w G2 w' → ∀ d l, look bx2 d = some l → (look st.bx d = some l ∧ G2.hb d = G.hb d ∧ ¬ fr (G.hb d)) ∨ (∃ cs e, w'.heap[G2.hb d]? = some (.cells cs e (0, 0)) ∧ G2.own (G2.hb d) = some (.bx d) ∧ All2 (RelC G2 w' bx2 bl2) l cs.toList))
    (hbl : ∀ id b, look bl2 id = some (some b) → (look st.bl id = some (some b) ∧ G2.hv id = G.hv id ∧ ∀ g, G.own g = some (.bl id) → ¬ fr g) ∨ BlkOk G2 w' id b)
    (hown : ∀ g k, G2.own g = some k → (w.heap.size ≤ g ∨ fr g) → g < w'.heap.size ∧ KeyAt G2 bx2 bl2 g k) :
    Inv w0 G2 { st with bx := bx2, bl := bl2 } a w' ∧ Ext G w G2 w' := by
  have hx : Ext G w G2 w' := by
    refine ⟨hnw, hok, hK.size, fun b hb ho => ?_, fun b hb ho => ?_⟩
    · have hne : ¬ fr b := fun hf => by
        have := hfr b hf
        rw [ho] at this
        cases this
      exact ⟨(hold b hb hne).trans ho, hK.block b hb hne⟩
    · have hne : ¬ fr b := fun hf => hfrh b hf ho
      exact ⟨(hold b hb hne).trans ho, hK.block b hb hne⟩
  refine ⟨⟨hnw.trans h.nw, hok.trans h.rok, ?_, h.defers, h.size, h.sp.mono hx hs, h.hdMono hx, fun t v hv => (h.tm t v hv).mono hx hs, ?_, ?_, ?_⟩, hx⟩
  · refine h.below.step hK.os hK.tape hK.output hK.size fun k hk hf => hK.block k (Nat.lt_of_lt_of_le hk h.below.size) fun hfk => ?_
    obtain ⟨key, hkey⟩ := Option.isSome_iff_exists.1 (hfr k hfk)
    rcases (h.own k key hkey).1 with h1 | h1
    · omega
    · exact hf h1
  · intro d l hd
    rcases hbx hx d l hd with ⟨h1, h2, h3⟩ | h1
    · obtain ⟨cs, e, h4, h5, h6⟩ := h.bx d l h1
      have hlt := (h.own _ _ h5).2.1
      refine ⟨cs, e, ?_, ?_, h6.imp fun _ _ => RelC.mono hx hs⟩
      · rw [h2, hK.block _ hlt h3]
        exact h4
      · rw [h2, hold _ hlt h3]
        exact h5
    · exact h1
  · intro id b hb
    rcases hbl id b hb with ⟨h1, h2, h3⟩ | h1
    · refine (h.bl id b h1).mono hx h2 fun hw g hg ho => ?_
      have hlt := (h.own _ _ ho).2.1
      exact ⟨(hold g hlt (h3 g ho)).trans ho, hK.block g hlt (h3 g ho)⟩
    · exact h1
  · intro g k hk
    by_cases hn : w.heap.size ≤ g ∨ fr g
    · obtain ⟨h1, h2⟩ := hown g k hk hn
      refine ⟨?_, h1, by cases k with | bx d => exact h2 | bl id => exact h2 | hid => exact h2.elim⟩
      rcases hn with hn | hn
      · exact .inl (Nat.le_trans h.below.size hn)
      · obtain ⟨key, hkey⟩ := Option.isSome_iff_exists.1 (hfr g hn)
        exact (h.own g key hkey).1
    · have hlt : g < w.heap.size := by
        by_cases hl : g < w.heap.size
        · exact hl
        · exact absurd (.inl (by omega)) hn
      have hnf : ¬ fr g := fun hf => hn (.inr hf)
      rw [hold g hlt hnf] at hk
      obtain ⟨h1, h2, h3⟩ := h.own g k hk
      refine ⟨h1, Nat.lt_of_lt_of_le h2 hK.size, ?_⟩
      cases k with
      | hid => trivial
      | bx d => exact ⟨(hs.bx d h3.1).1, by rw [(hs.bx d h3.1).2]; exact h3.2⟩
      | bl id => exact ⟨(hs.bl id h3.1).1, by rw [(hs.bl id h3.1).2.1]; exact h3.2⟩

/-! ### Rows and a box that come back -/
def rowKey (L : List (Nat × Blk × Value)) (g : Nat) : Option Key := (L.find? fun z => z.2.2.ownBlock == some g).map fun z => .bl z.1
def backKey (L : List (Nat × Blk × Value)) (B : Option (Nat × Nat × List AC)) (g : Nat) : Option Key := match B with
  | some (d, g0, _) => if g = g0 then some (.bx d) else rowKey L g
  | none => rowKey L g
def Gh.back (G : Gh) (size : Nat) (own0 own' : Nat → Option Nat) (L : List (Nat × Blk × Value)) (B : Option (Nat × Nat × List AC)) : Gh :=
  { nw := G.nw, ok := G.ok,
    hb := fun x => match B with | some (d, g0, _) => if x = d then g0 else G.hb x | none => G.hb x,
    hv := fun i => match L.find? (·.1 == i) with | some z => z.2.2 | none => G.hv i,
    own := fun g => if g < size ∧ own0 g = none then G.own g else match own' g with | none => none | some _ => backKey L B g }

structure BackOk (w w' : World) (G : Gh) (st : St) (own0 own' : Nat → Option Nat) (okE : Bool → Nat → Prop) (L : List (Nat × Blk × Value)) (B : Option (Nat × Nat × List AC))
    (bx2 : List (Nat × List AC)) (bl2 : List (Nat × Option Blk)) : Prop where
  keeps : Keeps (fun g => (own0 g).isSome = true) w w'
  pass : ∀ g j, own0 g = some j → (G.own g).isSome = true
  passh : ∀ g j, own0 g = some j → G.own g ≠ some .hid
  new : ∀ g j, own' g = some j → w.heap.size ≤ g ∨ (own0 g).isSome = true
  els : ∀ f g, okE f g → RO (G.back w.heap.size own0 own' L B) f g
  row : ∀ z ∈ L, z.2.1.w = true ∧ 0 < z.2.1.t.n ∧ (∃ rows, w'.ownsRow 0 z.2.1.e z.2.1.t.n z.2.2 z.2.1.xs.length rows ∧ ElsIn w' (okE z.2.1.f) z.2.1.t rows z.2.1.xs) ∧ ∀ g, z.2.2.ownBlock = some g → (own' g).isSome = true
  inj : ∀ z ∈ L, ∀ z' ∈ L, ∀ g, z.2.2.ownBlock = some g → z'.2.2.ownBlock = some g → z = z'
  uniq : ∀ z ∈ L, ∀ z' ∈ L, z.1 = z'.1 → z = z'
  name : ∀ z ∈ L, look st.bl z.1 = none ∨ (z.2.2 = G.hv z.1 ∧ ∃ b, look st.bl z.1 = some (some b) ∧ b.t = z.2.1.t)
  bl : ∀ i b, look bl2 i = some (some b) → (∃ v, (i, b, v) ∈ L) ∨ ((∀ z ∈ L, z.1 ≠ i) ∧ look st.bl i = some (some b) ∧ ∀ g, G.own g = some (.bl i) → own0 g = none)
  bls : ∀ i, (look st.bl i).isSome = true → (look bl2 i).isSome = true
  blL : ∀ z ∈ L, (look bl2 z.1).isSome = true
  bx : ∀ d l, look bx2 d = some l → (∃ g0, B = some (d, g0, l)) ∨ ((∀ d' g l', B = some (d', g, l') → d' ≠ d) ∧ look st.bx d = some l ∧ own0 (G.hb d) = none)
  bxs : ∀ d, (look st.bx d).isSome = true → (look bx2 d).isSome = true
  bxB : ∀ d g l, B = some (d, g, l) → (look bx2 d).isSome = true ∧ (look st.bx d = none ∨ G.hb d = g) ∧ ((own' g).isSome = true ∧ ∀ z ∈ L, z.2.2.ownBlock ≠ some g) ∧
    ∃ cs e f t x, w'.heap[g]? = some (.cells cs e (0, 0)) ∧ l = ex f t x ∧ Rd w' (okE f) t x cs.toList

theorem BackOk.find {w w' : World} {G : Gh} {st : St} {own0 own' : Nat → Option Nat} {okE : Bool → Nat → Prop} {L : List (Nat × Blk × Value)} {B : Option (Nat × Nat × List AC)}
    {bx2 : List (Nat × List AC)} {bl2 : List (Nat × Option Blk)} (h : BackOk w w' G st own0 own' okE L B bx2 bl2) {z : Nat × Blk × Value} (hz : z ∈ L) {g : Nat} (hg : z.2.2.ownBlock = some g) :
    (G.back w.heap.size own0 own' L B).own g = some (.bl z.1) := by
  obtain ⟨j0, ho⟩ := Option.isSome_iff_exists.1 ((h.row z hz).2.2.2 g hg)
  have hrow : rowKey L g = some (.bl z.1) := by
    unfold rowKey
    cases hf : L.find? fun z => z.2.2.ownBlock == some g with
    | none =>
      have := List.find?_eq_none.1 hf z hz
      simp [hg] at this
    | some y =>
      have h1 := List.find?_some hf
      have h2 := List.mem_of_find?_eq_some hf
      have := h.inj z hz y h2 g hg (by simpa using h1)
      rw [← this]
      rfl
  have hne : ¬ (g < w.heap.size ∧ own0 g = none) := by
    rintro ⟨h1, h2⟩
    rcases h.new g _ ho with h3 | h3
    · omega
    · rw [h2] at h3; cases h3
  unfold Gh.back
  dsimp only
  rw [if_neg hne, ho]
  dsimp only
  unfold backKey
  split
  · rename_i d g0 l
    split
    · rename_i he
      subst he
      obtain ⟨_, _, ⟨h4, h5⟩, _⟩ := h.bxB d g l rfl
      exact absurd hg (h5 z hz)
    · exact hrow
  · exact hrow

theorem Inv.back (h : Inv w0 G st a w) {w' : World} {own0 own' : Nat → Option Nat} {okE : Bool → Nat → Prop} {L : List (Nat × Blk × Value)} {B : Option (Nat × Nat × List AC)}
    {bx2 : List (Nat × List AC)} {bl2 : List (Nat × Option Blk)} (hB : BackOk w w' G st own0 own' okE L B bx2 bl2) :
    Inv w0 (G.back w.heap.size own0 own' L B) { st with bx := bx2, bl := bl2 } a w' ∧ ∀ c v, CellFr L c v → RelC (G.back w.heap.size own0 own' L B) w' bx2 bl2 c v := by
  have hvL : ∀ z ∈ L, (G.back w.heap.size own0 own' L B).hv z.1 = z.2.2 := by
    intro z hz
    show (match L.find? (·.1 == z.1) with | some z => z.2.2 | none => G.hv z.1) = _
    cases hf : L.find? (·.1 == z.1) with
    | none =>
      have := List.find?_eq_none.1 hf z hz
      simp at this
    | some y =>
      have h1 := List.find?_some hf
      have h2 := List.mem_of_find?_eq_some hf
      rw [hB.uniq y h2 z hz (by simpa using h1)]
  have hvN : ∀ i, (∀ z ∈ L, z.1 ≠ i) → (G.back w.heap.size own0 own' L B).hv i = G.hv i := by
    intro i hi
    show (match L.find? (·.1 == i) with | some z => z.2.2 | none => G.hv i) = _
    cases hf : L.find? (·.1 == i) with
    | none => rfl
    | some y =>
      have h1 := List.find?_some hf
      exact absurd (by simpa using h1) (hi y (List.mem_of_find?_eq_some hf))
  have hbN : ∀ d, (∀ d' g l, B = some (d', g, l) → d' ≠ d) → (G.back w.heap.size own0 own' L B).hb d = G.hb d := by
    intro d hd
    show (match B with | some (d', g0, _) => if d = d' then g0 else G.hb d | none => G.hb d) = _
    cases B with
    | none => rfl
    | some q =>
      obtain ⟨d', g, l⟩ := q
      have := hd d' g l rfl
      show (if d = d' then g else G.hb d) = _
      rw [if_neg fun e => this e.symm]
  have hbB : ∀ d g l, B = some (d, g, l) → (G.back w.heap.size own0 own' L B).hb d = g := by
    intro d g l he
    subst he
    simp [Gh.back]
  have hs : StLe G st.bx st.bl (G.back w.heap.size own0 own' L B) bx2 bl2 := by
    refine ⟨fun d hd => ⟨hB.bxs d hd, ?_⟩, fun i hi => ⟨hB.bls i hi, ?_, fun b' hb' => ?_⟩⟩
    · by_cases hq : ∃ g l, B = some (d, g, l)
      · obtain ⟨g, l, hq⟩ := hq
        rw [hbB d g l hq]
        rcases (hB.bxB d g l hq).2.1 with h1 | h1
        · rw [h1] at hd; cases hd
        · exact h1.symm
      · exact hbN d fun d' g l he hdd => hq ⟨g, l, by rw [he, hdd]⟩
    · by_cases hq : ∃ z ∈ L, z.1 = i
      · obtain ⟨z, hz, rfl⟩ := hq
        rw [hvL z hz]
        rcases hB.name z hz with h1 | ⟨h1, _⟩
        · rw [h1] at hi; cases hi
        · exact h1
      · exact hvN i fun z hz hzi => hq ⟨z, hz, hzi⟩
    · rcases hB.bl i b' hb' with ⟨v, hv⟩ | ⟨_, h1, _⟩
      · rcases hB.name _ hv with h1 | ⟨_, b, h2, h3⟩
        · rw [h1] at hi; cases hi
        · exact ⟨b, h2, h3⟩
      · exact ⟨b', h1, rfl⟩
  have hmain := h.turn (G2 := G.back w.heap.size own0 own' L B) (bx2 := bx2) (bl2 := bl2) hB.keeps (fun g hg => by
      obtain ⟨j, hj⟩ := Option.isSome_iff_exists.1 hg
      exact hB.pass g j hj) (fun g hg => by
      obtain ⟨j, hj⟩ := Option.isSome_iff_exists.1 hg
      exact hB.passh g j hj) rfl rfl (fun g hg hf => by
      have : own0 g = none := by
        cases ho : own0 g with
        | none => rfl
        | some j => rw [ho] at hf; exact absurd rfl hf
      simp [Gh.back, hg, this]) hs (fun hx d l hd => by
      rcases hB.bx d l hd with ⟨g0, hg⟩ | ⟨h1, h2, h3⟩
      · refine .inr ?_
        obtain ⟨_, _, ⟨h40, h5⟩, cs, e, f, t, x, h6, rfl, h8⟩ := hB.bxB d g0 l hg
        obtain ⟨j, h4⟩ := Option.isSome_iff_exists.1 h40
        refine ⟨cs, e, by rw [hbB d g0 _ hg]; exact h6, ?_, ex_rel (rd_weak (fun g hg => hB.els f g hg) h8)⟩
        rw [hbB d g0 _ hg]
        have hne : ¬ (g0 < w.heap.size ∧ own0 g0 = none) := by
          rintro ⟨h9, h10⟩
          rcases hB.new g0 j h4 with h3 | h3
          · omega
          · rw [h10] at h3; cases h3
        subst hg
        unfold Gh.back
        dsimp only
        rw [if_neg hne, h4]
        simp [backKey]
      · exact .inl ⟨h2, hbN d h1, by rw [h3]; simp⟩) (fun i b hb => by
      rcases hB.bl i b hb with ⟨v, hv⟩ | ⟨h1, h2, h3⟩
      · refine .inr ?_
        obtain ⟨hw, hp, ⟨rows, h4, h5⟩, h6⟩ := hB.row _ hv
        have hhv := hvL _ hv
        refine ⟨fun _ => ⟨rows, ?_, ?_, ?_⟩, fun hw' => ?_, hp⟩
        · rw [hhv]; exact h4
        · rw [hhv]
          exact fun g hg => hB.find hv hg
        · exact els_weak (fun g hg => hB.els _ g hg) h5
        · rw [show b.w = true from hw] at hw'
          cases hw'
      · exact .inl ⟨h2, hvN i h1, fun g hg => by rw [h3 g hg]; simp⟩) (fun g key hk hn => by
      have hne : ¬ (g < w.heap.size ∧ own0 g = none) := by
        rintro ⟨h1, h2⟩
        rcases hn with h3 | h3
        · omega
        · rw [h2] at h3; cases h3
      have hk0 := hk
      unfold Gh.back at hk
      dsimp only at hk
      rw [if_neg hne] at hk
      cases ho : own' g with
      | none => rw [ho] at hk; cases hk
      | some j =>
        rw [ho] at hk
        dsimp only at hk
        have rowcase : rowKey L g = some key → g < w'.heap.size ∧ KeyAt (G.back w.heap.size own0 own' L B) bx2 bl2 g key := by
          intro hr
          unfold rowKey at hr
          cases hf : L.find? fun z => z.2.2.ownBlock == some g with
          | none => rw [hf] at hr; cases hr
          | some y =>
            rw [hf] at hr
            cases hr
            have h1 := List.find?_some hf
            have h2 := List.mem_of_find?_eq_some hf
            have h3 : y.2.2.ownBlock = some g := by simpa using h1
            refine ⟨?_, hB.blL y h2, by rw [hvL y h2]; exact h3⟩
            obtain ⟨_, _, ⟨rows, h4, _⟩, _⟩ := hB.row y h2
            rcases h4.2 with ⟨he, _⟩ | ⟨g', cap, cur, he, _, hh, _⟩
            · rw [he] at h3; simp [Value.ownBlock] at h3
            · rw [he] at h3
              have : g' = g := by simpa [Value.ownBlock] using h3
              subst this
              exact (Array.getElem?_eq_some_iff.1 hh).1
        unfold backKey at hk
        split at hk
        · rename_i d g0 l
          by_cases he : g = g0
          · rw [if_pos he] at hk
            cases hk
            obtain ⟨h1, _, _, cs, e, f, t, x, h6, _⟩ := hB.bxB d g0 l rfl
            subst he
            exact ⟨(Array.getElem?_eq_some_iff.1 h6).1, h1, (hbB d g l rfl).symm⟩
          · rw [if_neg he] at hk
            exact rowcase hk
        · exact rowcase hk)
  refine ⟨hmain.1, fun c v hc => ?_⟩
  cases c with
  | own i len =>
    cases len with
    | some l => exact hc.elim
    | none =>
      obtain ⟨b, hb⟩ := hc
      have hhv := hvL _ hb
      refine ⟨hB.blL _ hb, ?_, hhv.symm⟩
      rw [show (G.back w.heap.size own0 own' L B).hv i = v from hhv]
      obtain ⟨_, _, ⟨rows, ho, _⟩, _⟩ := hB.row _ hb
      rcases ho.2 with ⟨he, _⟩ | ⟨g', cap, cur, he, _⟩
      · exact ⟨_, _, _, he⟩
      · exact ⟨_, _, _, he⟩
  | int k n => exact hc
  | bool b => exact hc
  | str s => exact hc
  | _ => exact hc.elim

/-! ### What was handed over -/
def ownIds : List AC → List Nat
  | [] => []
  | .own id _ :: l => id :: ownIds l
  | _ :: l => ownIds l
theorem resOk_own {m : Nat} (hm : m = 2 ∨ m = 3) {seen : List Nat} {id : Nat} {len : Option Int} {l : List AC} (h : resOk st m seen (.own id len :: l) = true) :
    ∃ b, st.blk id = some b ∧ (m = 2 → b.f = true) ∧ b.w = true ∧ id ∉ seen ∧ len = none ∧ resOk st m (id :: seen) l = true := by
  simp only [resOk] at h
  split at h
  · rename_i b hb
    have hlen : ∀ o : Option Int, (match o with | none => true | some _ => false) = true → o = none := by
      intro o ho
      cases o with
      | none => rfl
      | some _ => cases ho
    have hns : ∀ c : Bool, (!c) = true → c = false := by intro c hc; cases c with | false => rfl | true => cases hc
    have hmem : hasN seen id = false → id ∉ seen := fun hf hi => by rw [hasN_mem.2 hi] at hf; cases hf
    rcases hm with rfl | rfl
    · simp only [Bool.and_eq_true, Bool.or_eq_true] at h
      exact ⟨b, hb, fun _ => h.1.1.elim (fun h => h.elim (fun h => h) (fun h => by cases h)) (fun h => by cases h), h.1.2.1.1, hmem (hns _ h.1.2.1.2), hlen _ h.1.2.2, h.2⟩
    · simp only [Bool.and_eq_true] at h
      exact ⟨b, hb, fun h2 => (by cases h2), h.1.2.1.1, hmem (hns _ h.1.2.1.2), hlen _ h.1.2.2, h.2⟩
  · cases h
theorem resOk_tail {m : Nat} {seen : List Nat} {c : AC} {l : List AC} (hc : ∀ id len, c ≠ .own id len) (h : resOk st m seen (c :: l) = true) : resOk st m seen l = true := by
  cases c with
  | own id len => exact absurd rfl (hc id len)
  | ro f e t xs => simp only [resOk, Bool.and_eq_true] at h; exact h.2
  | _ => exact h

theorem resOk_ids {m : Nat} (hm : m = 2 ∨ m = 3) : ∀ {l : List AC} {seen : List Nat}, resOk st m seen l = true → (ownIds l).Nodup ∧ (∀ id ∈ ownIds l, id ∉ seen) ∧ ∀ id len, AC.own id len ∈ l → len = none ∧ ∃ b, st.blk id = some b
  | [], seen, _ => ⟨List.nodup_nil, fun id hi => by simp [ownIds] at hi, fun id len hi => by simp at hi⟩
  | c :: l, seen, h => by
    by_cases hc : ∃ id len, c = .own id len
    · obtain ⟨id, len, rfl⟩ := hc
      obtain ⟨b, hb, _, _, hns, hlen, ht⟩ := resOk_own hm h
      obtain ⟨h1, h2, h3⟩ := resOk_ids hm ht
      refine ⟨List.nodup_cons.2 ⟨fun hi => h2 id hi (by simp), h1⟩, fun i hi => ?_, fun i ln hi => ?_⟩
      · rcases List.mem_cons.1 (show i ∈ id :: ownIds l from hi) with rfl | hi
        · exact hns
        · exact fun hs => h2 i hi (by simp [hs])
      · rcases List.mem_cons.1 hi with he | hi
        · cases he
          exact ⟨hlen, b, hb⟩
        · exact h3 i ln hi
    · have hc' : ∀ id len, c ≠ .own id len := fun id len he => hc ⟨id, len, he⟩
      obtain ⟨h1, h2, h3⟩ := resOk_ids hm (resOk_tail hc' h)
      have he : ownIds (c :: l) = ownIds l := by
        cases c with
        | own id len => exact absurd rfl (hc' id len)
        | _ => rfl
      rw [he]
      refine ⟨h1, h2, fun i ln hi => ?_⟩
      rcases List.mem_cons.1 hi with he' | hi
      · exact absurd he'.symm (hc' i ln)
      · exact h3 i ln hi

theorem gone_look (id : Nat) : ∀ (l : List AC), look (st.gone l).bl id = if id ∈ ownIds l then some none else look st.bl id
  | [] => by simp [ownIds, St.gone]
  | c :: l => by
    have ih := gone_look id l
    cases c with
    | own i len =>
      show look ((i, none) :: (st.gone l).bl) id = _
      rw [look_cons]
      by_cases hi : i = id
      · simp [hi, ownIds]
      · rw [if_neg hi, ih]
        have hi' : ¬ id = i := fun e => hi e.symm
        simp [ownIds, hi']
    | _ => exact ih

structure KeepRow (w' : World) (okE : Nat → Prop) (f : Bool) (own' : Nat → Option Nat) (G : Gh) (st : St) (z : Nat × Nat × Blk × Value) : Prop where
  wr : z.2.2.1.w = true
  nf : z.2.2.1.f = f
  pos : 0 < z.2.2.1.t.n
  row : ∃ rows, w'.ownsRow 0 z.2.2.1.e z.2.2.1.t.n z.2.2.2 z.2.2.1.xs.length rows ∧ ElsIn w' okE z.2.2.1.t rows z.2.2.1.xs
  blk : ∀ g, z.2.2.2.ownBlock = some g → own' g = some z.1
  hv : z.2.2.2 = G.hv z.2.1
  old : ∃ b, look st.bl z.2.1 = some (some b) ∧ b.t = z.2.2.1.t

theorem FrC.len {w : World} {okE : Nat → Prop} {own : Nat → Option Nat} : ∀ {t : Ty} {x : t.D} {j : Nat} {cs : List Value}, FrC w okE own t x j cs → cs.length = t.n
  | .int _, _, _, _, h => by rw [show _ = _ from h]; rfl
  | .bool, _, _, _, h => by rw [show _ = _ from h]; rfl
  | .str, _, _, _, h => by rw [show _ = _ from h]; rfl
  | .unit, _, _, _, h => by rw [show _ = _ from h]; rfl
  | .pair a b, _, _, _, h => by
    obtain ⟨c1, c2, rfl, h1, h2⟩ := h
    simp [Ty.n, FrC.len h1, FrC.len h2]
  | .sl e t, _, _, _, h => by
    obtain ⟨v, rows, rfl, _⟩ := h
    rfl

theorem FrC.els {w : World} {okE okE' : Nat → Prop} {own : Nat → Option Nat} : ∀ {t : Ty} {x : t.D} {j : Nat} {cs : List Value}, FrC w okE own t x j cs → (∀ g, okE g → okE' g) → FrC w okE' own t x j cs
  | .int _, _, _, _, h, _ => h
  | .bool, _, _, _, h, _ => h
  | .str, _, _, _, h, _ => h
  | .unit, _, _, _, h, _ => h
  | .pair a b, _, _, _, h, he => by
    obtain ⟨c1, c2, e, h1, h2⟩ := h
    exact ⟨c1, c2, e, FrC.els h1 he, FrC.els h2 he⟩
  | .sl e t, _, _, _, h, he => by
    obtain ⟨v, rows, h1, h2, h3, h4, h5⟩ := h
    exact ⟨v, rows, h1, h2, h3, h4, els_weak he h5⟩
theorem any_rd' (h : Inv w0 G st a w) {l : List AC} : ∀ t c v xs, c ∈ l → RelC G w st.bx st.bl c v → slData st t c = some xs → ∀ e, Rd w (fun _ => True) (.sl e t) xs [v] := fun t c v xs _ => any_rd h t c v xs

theorem exKeep_fr {w' : World} {okE : Nat → Prop} {f : Bool} {own' : Nat → Option Nat} : ∀ {t : Ty} {x0 x : t.D} {j : Nat} {l l' : List AC} {vs vs2 cs : List Value},
    im st t l = some (x0, l') → All2 (RelC G w st.bx st.bl) l vs → (∀ id len, AC.own id len ∈ l → len = none ∧ ∃ b, st.blk id = some b) → FrC w' okE own' t x j cs → vs = cs ++ vs2 →
    ∃ (l1 : List AC) (L : List (Nat × Nat × Blk × Value)), l = l1 ++ l' ∧ All2 (RelC G w st.bx st.bl) l' vs2 ∧ (exKeep f t x l).2 = l' ∧ (exKeep f t x l).1 = L.map (fun z => (z.2.1, some z.2.2.1)) ∧ L.map (·.2.1) = ownIds l1 ∧
      (∀ z ∈ L, j ≤ z.1 ∧ z.1 < j + t.n ∧ KeepRow w' okE f own' G st z) ∧ (∀ z ∈ L, ∀ z' ∈ L, z.1 = z'.1 → z = z')
  | .int k, x0, x, j, l, l', vs, vs2, cs, hi, hrel, hown, hf, he => by
    cases l with
    | nil => simp [im] at hi
    | cons c l =>
      cases c with
      | int q n =>
        simp only [im] at hi
        split at hi
        · cases hi
          subst he
          rw [show cs = _ from hf] at hrel
          exact ⟨[_], [], rfl, hrel.2, rfl, rfl, rfl, fun z hz => by simp at hz, fun z hz => by simp at hz⟩
        · cases hi
      | _ => simp [im] at hi
  | .bool, x0, x, j, l, l', vs, vs2, cs, hi, hrel, hown, hf, he => by
    cases l with
    | nil => simp [im] at hi
    | cons c l =>
      cases c with
      | bool b =>
        simp only [im] at hi
        cases hi
        subst he
        rw [show cs = _ from hf] at hrel
        exact ⟨[_], [], rfl, hrel.2, rfl, rfl, rfl, fun z hz => by simp at hz, fun z hz => by simp at hz⟩
      | _ => simp [im] at hi
  | .str, x0, x, j, l, l', vs, vs2, cs, hi, hrel, hown, hf, he => by
    cases l with
    | nil => simp [im] at hi
    | cons c l =>
      cases c with
      | str b =>
        simp only [im] at hi
        cases hi
        subst he
        rw [show cs = _ from hf] at hrel
        exact ⟨[_], [], rfl, hrel.2, rfl, rfl, rfl, fun z hz => by simp at hz, fun z hz => by simp at hz⟩
      | _ => simp [im] at hi
  | .unit, x0, x, j, l, l', vs, vs2, cs, hi, hrel, hown, hf, he => by
    simp only [im] at hi
    cases hi
    subst he
    rw [show cs = [] from hf] at hrel
    exact ⟨[], [], rfl, hrel, by simp [exKeep], by simp [exKeep], rfl, fun z hz => by simp at hz, fun z hz => by simp at hz⟩
  | .pair p q, x0, x, j, l, l', vs, vs2, cs, hi, hrel, hown, hf, he => by
    simp only [im] at hi
    split at hi
    · rename_i y r1 hy
      split at hi
      · rename_i z r2 hz
        cases hi
        obtain ⟨c1, c2, rfl, hf1, hf2⟩ := hf
        obtain ⟨l1, L1, h1, h2, h3, h4, h5, h6, h7⟩ := exKeep_fr (f := f) hy hrel hown hf1 (by rw [he, List.append_assoc])
        obtain ⟨l2, L2, k1, k2, k3, k4, k5, k6, k7⟩ := exKeep_fr (f := f) (l := r1) hz h2 (fun id len hm => hown id len (by rw [h1]; simp [hm])) hf2 rfl
        refine ⟨l1 ++ l2, L1 ++ L2, by rw [h1, k1, List.append_assoc], k2, ?_, ?_, ?_, fun z hz => ?_, fun z hz z' hz' he' => ?_⟩
        · simp only [exKeep, h3, k3]
        · simp only [exKeep, h3, h4, k4, List.map_append]
        · rw [List.map_append, h5, k5]
          have app : ∀ (a b : List AC), ownIds (a ++ b) = ownIds a ++ ownIds b := by
            intro a b
            induction a with
            | nil => rfl
            | cons c a ih =>
              cases c with
              | own id len => simp [ownIds, ih]
              | _ => simp [ownIds, ih]
          rw [app]
        · rcases List.mem_append.1 hz with hz | hz
          · obtain ⟨a1, a2, a3⟩ := h6 z hz
            exact ⟨a1, by simp only [Ty.n]; omega, a3⟩
          · obtain ⟨a1, a2, a3⟩ := k6 z hz
            exact ⟨by omega, by simp only [Ty.n]; omega, a3⟩
        · rcases List.mem_append.1 hz with hz | hz <;> rcases List.mem_append.1 hz' with hz' | hz'
          · exact h7 z hz z' hz' he'
          · have := (h6 z hz).2.1
            have := (k6 z' hz').1
            omega
          · have := (k6 z hz).1
            have := (h6 z' hz').2.1
            omega
          · exact k7 z hz z' hz' he'
      · cases hi
    · cases hi
  | .sl e t, x0, x, j, l, l', vs, vs2, cs, hi, hrel, hown, hf, he => by
    cases l with
    | nil => simp [im] at hi
    | cons c l =>
      simp only [im] at hi
      split at hi
      · rename_i ys hys
        cases hi
        obtain ⟨v, rows, rfl, hp, ho, hb, hel⟩ := hf
        subst he
        have hrel1 : RelC G w st.bx st.bl c v := hrel.1
        have hrel2 : All2 (RelC G w st.bx st.bl) l' vs2 := hrel.2
        cases c with
        | own id len =>
          obtain ⟨hlen, b, hblk⟩ := hown id len (by simp)
          subst hlen
          simp only [slData, hblk] at hys
          split at hys
          · rename_i ht
            refine ⟨[.own id none], [(j, id, ⟨e, t, x, f, true⟩, v)], rfl, hrel2, rfl, rfl, rfl, fun z hz => ?_, fun z hz z' hz' _ => ?_⟩
            · simp at hz
              subst hz
              refine ⟨Nat.le_refl _, by simp [Ty.n], rfl, rfl, hp, ⟨rows, ho, hel⟩, hb, hrel1.2.2, b, blk_some hblk, Ty.beq_eq ht⟩
            · simp at hz hz'
              rw [hz, hz']
          · cases hys
        | nil => exact ⟨[_], [], rfl, hrel2, rfl, rfl, rfl, fun z hz => by simp at hz, fun z hz => by simp at hz⟩
        | ro f' e' t' xs' => exact ⟨[_], [], rfl, hrel2, rfl, rfl, rfl, fun z hz => by simp at hz, fun z hz => by simp at hz⟩
        | _ => simp [slData] at hys
      · cases hi

theorem rdArgs_same {st' : St} (h : SameData st st') (pm : PM) : ∀ (i : Nat) (os : List Operand), rdArgs st' pm i os = rdArgs st pm i os
  | 0, [] => rfl
  | _ + 1, [] => rfl
  | 0, o :: os => by
    simp only [rdArgs]
    rw [evc_same h.tm, callArgs_same h os, h.bx]
  | i + 1, o :: os => by
    simp only [rdArgs]
    rw [evc_same h.tm, rdArgs_same h pm i os]

/-- The arguments of a call that writes. -/
theorem argsIn_of (h : Inv w0 G st a w) {ok nw : Nat → Prop} {own0 : Nat → Option Nat} {g0 : Nat} {pm : PM} : ∀ (i : Nat) (ps : List (Ty × Bool)) (os : List Operand) (x : Args ps),
    (∀ t c v xs, c ∈ rdArgs st pm i os → RelC G w st.bx st.bl c v → slData st t c = some xs → ∀ e, Rd w ok (.sl e t) xs [v]) → imArgs2 st pm i ps os = some x →
    (∀ p o y, nth? os i = some o → nth? ps i = some p → im2 st pm p o = some y → (pm = .rd → ∀ t c v xs, c ∈ (st.evc o).cells → RelC G w st.bx st.bl c v → slData st t c = some xs → ∀ e, Rd w ok (.sl e t) xs [v]) → SpIn w ok nw own0 g0 pm p y (a.eval o)) →
    ∃ o p, nth? os i = some o ∧ nth? ps i = some p ∧ (∃ y, im2 st pm p o = some y) ∧ ArgsIn w ok nw own0 g0 pm i ps x (os.map a.eval) (a.eval o)
  | 0, [], os, x, _, hi, _ => by cases os <;> simp [imArgs2] at hi
  | _ + 1, [], os, x, _, hi, _ => by cases os <;> simp [imArgs2] at hi
  | 0, p :: ps, [], x, _, hi, _ => by simp [imArgs2] at hi
  | _ + 1, p :: ps, [], x, _, hi, _ => by simp [imArgs2] at hi
  | 0, p :: ps, o :: os, x, hc, hi, hs => by
    simp only [imArgs2] at hi
    split at hi
    · rename_i y hy
      split at hi
      · rename_i ys hys
        cases hi
        refine ⟨o, p, rfl, rfl, ⟨y, hy⟩, os.map a.eval, rfl, hs p o y rfl rfl hy (fun hp t c v xs hm => hc t c v xs ?_), imArgs_rd h ps os ys (fun t c v xs hm => hc t c v xs ?_) hys⟩
        · subst hp
          simp [rdArgs, hm]
        · simp [rdArgs, hm]
      · cases hi
    · cases hi
  | i + 1, p :: ps, o :: os, x, hc, hi, hs => by
    simp only [imArgs2] at hi
    split at hi
    · rename_i y hy
      split at hi
      · rename_i ys hys
        cases hi
        obtain ⟨o', p', h1, h2, h3, h4⟩ := argsIn_of h i ps os ys (fun t c v xs hm => hc t c v xs (by simp [rdArgs, hm])) hys (fun p o y h1 h2 => hs p o y h1 h2)
        exact ⟨o', p', h1, h2, h3, a.eval o, os.map a.eval, rfl, im1_rd h (fun t c v xs hm => hc t c v xs (by simp [rdArgs, hm])) hy, h4⟩
      · cases hi
    · cases hi

/-- What may be read behind the call. -/
theorem back_els (h : Inv w0 G st a w) {own0 own' : Nat → Option Nat} (hpass : ∀ g j, own0 g = some j → (G.own g).isSome = true) (L : List (Nat × Blk × Value)) (B : Option (Nat × Nat × List AC)) (f : Bool) (g : Nat)
    (hg : own' g = none ∧ ((G.nw g ∧ (G.own g = none ∨ (own0 g).isSome = true)) ∨ (f = false ∧ RO G false g))) : RO (G.back w.heap.size own0 own' L B) f g := by
  obtain ⟨h1, h2⟩ := hg
  have hown : (G.back w.heap.size own0 own' L B).own g = none := by
    show (if g < w.heap.size ∧ own0 g = none then G.own g else match own' g with | none => none | some _ => backKey L B g) = none
    by_cases hc : g < w.heap.size ∧ own0 g = none
    · rw [if_pos hc]
      rcases h2 with ⟨_, h3 | h3⟩ | ⟨_, h3⟩
      · exact h3
      · rw [hc.2] at h3; cases h3
      · exact h3.1
    · rw [if_neg hc, h1]
  refine ⟨hown, ?_⟩
  rcases h2 with ⟨h3, _⟩ | ⟨h3, h4⟩
  · exact .inl h3
  · rcases h4.2 with h5 | h5
    · exact .inl h5
    · exact .inr ⟨h3, h5.2⟩

theorem handed_of (h : Inv w0 G st a w) {own0 : Nat → Option Nat} (hpass : ∀ g j, own0 g = some j → (G.own g).isSome = true) :
    Handed w (fun g => w0.w.heap.size ≤ g ∨ w0.fr g) (RO G false) (fun g => G.nw g ∧ (G.own g = none ∨ (own0 g).isSome = true)) own0 where
  hnew g hg := by
    refine ⟨h.newNw hg, .inl ?_⟩
    cases ho : G.own g with
    | none => rfl
    | some k => have := (h.own g k ho).2.1; omega
  hown g j hj := by
    obtain ⟨k, hk⟩ := Option.isSome_iff_exists.1 (hpass g j hj)
    obtain ⟨h1, h2, _⟩ := h.own g k hk
    exact ⟨⟨h.ownNw hk, .inr (by rw [hj]; rfl)⟩, h2, h1⟩
  hok g hg := by
    cases ho : own0 g with
    | none => rfl
    | some j =>
      have := hpass g j ho
      rw [hg.1] at this
      cases this

/-- Data read in one aggregate's cells. -/
theorem agg_rd {ok : Nat → Prop} {p : Ty × Bool} (hp : p.2 = true) {x : Args [p]} {cs : Array Value} (h : ArgsRd w ok [p] x [.agg cs]) : Rd w ok p.1 x.1 cs.toList := by
  obtain ⟨v, vs', he, ⟨cs', h1, h2⟩, _⟩ := h
  rw [hp] at h2
  have : v = .agg cs := (List.cons.inj he).1.symm
  rw [this] at h2
  have h3 : cs = cs'.toArray := Value.agg.inj h2
  rw [h3]
  exact h1

theorem relCV_of {G : Gh} {bx : List (Nat × List AC)} {bl : List (Nat × Option Blk)} {L : List (Nat × Blk × Value)} (h : ∀ c v, CellFr L c v → RelC G w bx bl c v) {c : CV} {v : Value} (hc : CVFr L c v) : RelCV G w bx bl c v := by
  cases c with
  | c x => exact h x v hc
  | agg l =>
    obtain ⟨cs, he, hl⟩ := hc
    exact ⟨cs, he, hl.imp h⟩

/-- A pointer to a new box. -/
theorem back_rd (h : Inv w0 G st a w) {con : Con2} {ok : Nat → Prop} {w' : World} {g0 : Nat} {u : Value} {y : Args con.rs × Args con.qs} {us : List Value} (hok : ∀ g, ok g → RO G false g)
    {fl : Bool} (hm : rdM con.m = some fl) (hres : Res2 con w w' ok (fun g => G.nw g ∧ (G.own g = none ∨ (none : Option Nat).isSome = true)) (fun _ => none) g0 u y us) (hK0 : Keeps (fun g => (none : Option Nat).isSome = true) w w') {d : Tmp}
    (hr : backRd fl con.rs st d y.1 k = some r) (hK : Goes w0 k r K) : K (a.put (some d) (retVal us)) w' := by
  obtain ⟨own', hnew, _, hres⟩ := hres
  have hres : ∃ b cs e, us = [.pointer (some ⟨b, 0, none⟩)] ∧ w.heap.size ≤ b ∧ (own' b).isSome = true ∧ w'.heap[b]? = some (.cells cs e (0, 0)) ∧
      ArgsRd w' (fun g => own' g = none ∧ ((G.nw g ∧ (G.own g = none ∨ (none : Option Nat).isSome = true)) ∨ (fl = false ∧ ok g))) con.rs y.1 [.agg cs] := by
    unfold rdM at hm
    split at hm
    · rename_i h4
      cases hm
      rw [h4] at hres
      obtain ⟨b, cs, e, h1, h2, h3, h4, h5⟩ := hres
      exact ⟨b, cs, e, h1, h2, h3, h4, args_weak (fun g hg => ⟨hg.1, .inl hg.2⟩) h5⟩
    · rename_i h4
      cases hm
      rw [h4] at hres
      obtain ⟨b, cs, e, h1, h2, h3, h4, h5⟩ := hres
      exact ⟨b, cs, e, h1, h2, h3, h4, args_weak (fun g hg => ⟨hg.1, hg.2.imp_right fun h => ⟨rfl, h⟩⟩) h5⟩
    · cases hm
  obtain ⟨b, cs, e, rfl, hsz, hob, hh, hargs⟩ := hres
  obtain ⟨ps, i, pm, rs, m, qs, g⟩ := con
  dsimp only at *
  unfold backRd at hr
  split at hr
  · rename_i a0 r0
    split at hr
    · rename_i hl
      obtain ⟨hc, hr⟩ := ck_some hr
      rw [Bool.and_eq_true] at hc
      have hrd := agg_rd hc.2 hargs
      have hB : BackOk w w' G st (fun _ => none) own' (fun f g => own' g = none ∧ ((G.nw g ∧ (G.own g = none ∨ (none : Option Nat).isSome = true)) ∨ (f = false ∧ RO G false g))) [] (some (d, b, ex fl a0.1 y.1.1))
          ((d, ex fl a0.1 y.1.1) :: st.bx) st.bl := by
        refine ⟨hK0, fun g j hg => (by cases hg), fun g j hg => (by cases hg), hnew, fun f g hg => back_els h (fun g j hg => by cases hg) [] _ f g hg, fun z hz => (by simp at hz), fun z hz => (by simp at hz), fun z hz => (by simp at hz), fun z hz => (by simp at hz),
          fun i b hb => .inr ⟨fun z hz => (by simp at hz), hb, fun _ _ => rfl⟩, fun i hi => hi, fun z hz => (by simp at hz), fun d' l hd => ?_, fun d' hd => isSome_cons _ trivial hd, fun d' g l he => ?_⟩
        · rw [look_cons] at hd
          by_cases hdd : d = d'
          · subst hdd
            rw [if_pos rfl] at hd
            cases hd
            exact .inl ⟨b, rfl⟩
          · rw [if_neg hdd] at hd
            exact .inr ⟨fun d2 g l' he => (by cases he; exact hdd), hd, rfl⟩
        · cases he
          refine ⟨by simp [look_cons], .inl hl, ⟨hob, fun z hz => (by simp at hz)⟩, cs, e, fl, a0.1, y.1.1, hh, rfl, rd_weak (fun g hg => ⟨hg.1, hg.2.imp_right fun h => ⟨h.1, hok g h.2⟩⟩) hrd⟩
      obtain ⟨hinv, _⟩ := h.back hB
      have h2 := hinv.put d (blt_lt hc.1) (v := .v (.c (.ptr d 0))) (u := .pointer (some ⟨b, 0, none⟩)) ⟨by simp [look_cons], by simp [Gh.back]⟩
      exact hK _ _ _ _ h2 hr
    · cases hr
  · cases hr

/-- Rows of the callee's own. -/
theorem posOf_none {id : Nat} : ∀ {l : List AC} {k : Nat}, id ∉ ownIds l → posOf l id k = none
  | [], _, _ => rfl
  | c :: l, k, h => by
    cases c with
    | own i len =>
      have h1 : i ≠ id := fun e => h (by simp [ownIds, e])
      have h2 : id ∉ ownIds l := fun hi => h (by simp [ownIds, hi])
      simp [posOf, h1, posOf_none h2]
    | _ => exact posOf_none (l := l) h
theorem own0_pass {all : List AC} {g j : Nat} (h : ownOf G all g = some j) : (G.own g).isSome = true := by
  unfold ownOf at h
  split at h
  · rename_i id hid; rw [hid]; rfl
  · cases h

theorem own0_hid {all : List AC} {g j : Nat} (h : ownOf G all g = some j) : G.own g ≠ some .hid := by
  unfold ownOf at h
  split at h
  · rename_i id hid; rw [hid]; simp
  · cases h

theorem back_own2_core (h : Inv w0 G st a w) {ok : Nat → Prop} {w' : World} {rs : List (Ty × Bool)} {m : Nat} {y : Args rs} {us : List Value} (hok : ∀ g, ok g → RO G false g) {all : List AC} {own' : Nat → Option Nat}
    (hnew : ∀ g j, own' g = some j → w.heap.size ≤ g ∨ (ownOf G all g).isSome = true) (hflat : flatOk rs = true)
    (hres : ResFr w' (fun g => own' g = none ∧ ((G.nw g ∧ (G.own g = none ∨ (ownOf G all g).isSome = true)) ∨ (m2 m = false ∧ ok g))) own' rs y 0 us) (hK0 : Keeps (fun g => (ownOf G all g).isSome = true) w w') {d : Tmp}
    (hd : Nat.blt d st.nt = true) (hfn : freshNames (exRs d (m2 m) rs y 0).2 st = true) {bl3 : List (Nat × Option Blk)} {L2 : List (Nat × Nat × Blk × Value)}
    (hA : ∀ i b, look bl3 i = some (some b) → (∃ z ∈ L2, z.2.1 = i ∧ z.2.2.1 = b) ∨ ((∀ z ∈ L2, z.2.1 ≠ i) ∧ i ∉ ownIds all ∧ look st.bl i = some (some b))) (hBs : ∀ i, (look st.bl i).isSome = true → (look bl3 i).isSome = true)
    (hC : ∀ z ∈ L2, (look bl3 z.2.1).isSome = true) (hnd : ∀ z ∈ L2, ∀ z' ∈ L2, z.2.1 = z'.2.1 → z = z')
    (hL2 : ∀ z ∈ L2, nOf rs ≤ z.1 ∧ KeepRow w' (fun g => own' g = none ∧ ((G.nw g ∧ (G.own g = none ∨ (ownOf G all g).isSome = true)) ∨ (m2 m = false ∧ ok g))) (m2 m) own' G st z) (hpos : ∀ z ∈ L2, ∀ z' ∈ L2, z.1 = z'.1 → z = z')
    (hr : k { (st.put d (retAV (exRs d (m2 m) rs y 0).1)) with bl := (exRs d (m2 m) rs y 0).2 ++ bl3 } = some r) (hK : Goes w0 k r K) : K (a.put (some d) (retVal us)) w' := by
  obtain ⟨L1, hF, hcv⟩ := exRs_fr (id := d) (f := m2 m) hflat hres
  have hq := hF.q
  have hL1n : ∀ z ∈ L1, look st.bl z.1 = none := fun z hz => freshNames_ne hfn z.1 (by rw [hq]; exact look_map_mem hz)
  have hmem : ∀ z, z ∈ L1 ++ L2.map (·.2) → z ∈ L1 ∨ ∃ p, (p, z) ∈ L2 := by
    intro z hz
    rcases List.mem_append.1 hz with hz | hz
    · exact .inl hz
    · obtain ⟨q, hq, rfl⟩ := List.mem_map.1 hz
      exact .inr ⟨q.1, hq⟩
  have hposL1 : ∀ z ∈ L1, ∀ g, z.2.2.ownBlock = some g → ∃ j, own' g = some j ∧ j < nOf rs ∧ z.1 = d * 64 + j := by
    intro z hz g hg
    obtain ⟨h1, h2, h3⟩ := hF.rows z hz
    exact ⟨_, h3.blk g hg, by omega, by omega⟩
  have hB : BackOk w w' G st (ownOf G all) own' (fun f g => own' g = none ∧ ((G.nw g ∧ (G.own g = none ∨ (ownOf G all g).isSome = true)) ∨ (f = false ∧ RO G false g))) (L1 ++ L2.map (·.2)) none st.bx ((exRs d (m2 m) rs y 0).2 ++ bl3) := by
    refine ⟨hK0, fun g j hg => own0_pass hg, fun g j hg => own0_hid hg, hnew, fun f g hg => back_els h (fun g j hg => own0_pass hg) _ _ f g hg, fun z hz => ?_, fun z hz z' hz' g hg hg' => ?_, fun z hz z' hz' he => ?_, fun z hz => ?_, fun i b hb => ?_, fun i hi => ?_, fun z hz => ?_, fun d' l hl => ?_,
      fun d' hd => hd, fun d' g l he => by cases he⟩
    · rcases hmem z hz with hz | ⟨p, hz⟩
      · obtain ⟨h1, h2, h3⟩ := hF.rows z hz
        obtain ⟨rows, h4, h5⟩ := h3.row
        refine ⟨h3.wr, h3.pos, ⟨rows, h4, els_weak (fun g hg => ⟨hg.1, ?_⟩) h5⟩, fun g hg => by rw [h3.blk g hg]; rfl⟩
        rw [h3.nf]
        exact hg.2.imp_right fun h => ⟨h.1, hok g h.2⟩
      · obtain ⟨h1, h3⟩ := hL2 _ hz
        obtain ⟨rows, h4, h5⟩ := h3.row
        refine ⟨h3.wr, h3.pos, ⟨rows, h4, els_weak (fun g hg => ⟨hg.1, ?_⟩) h5⟩, fun g hg => by rw [h3.blk g hg]; rfl⟩
        rw [show z.2.1.f = m2 m from h3.nf]
        exact hg.2.imp_right fun h => ⟨h.1, hok g h.2⟩
    · rcases hmem z hz with hz | ⟨p, hz⟩ <;> rcases hmem z' hz' with hz' | ⟨p', hz'⟩
      · obtain ⟨j, h1, _, h2⟩ := hposL1 z hz g hg
        obtain ⟨j', h3, _, h4⟩ := hposL1 z' hz' g hg'
        rw [h1] at h3
        cases h3
        exact hF.uniq z hz z' hz' (by omega)
      · obtain ⟨j, h1, h2, _⟩ := hposL1 z hz g hg
        obtain ⟨h3, h4⟩ := hL2 _ hz'
        have := h4.blk g hg'
        rw [h1] at this
        cases this
        dsimp only at h3
        omega
      · obtain ⟨j, h1, h2, _⟩ := hposL1 z' hz' g hg'
        obtain ⟨h3, h4⟩ := hL2 _ hz
        have := h4.blk g hg
        rw [h1] at this
        cases this
        dsimp only at h3
        omega
      · have h1 := (hL2 _ hz).2.blk g hg
        have h2 := (hL2 _ hz').2.blk g hg'
        rw [h1] at h2
        have := hpos _ hz _ hz' (Option.some.inj h2)
        exact congrArg (·.2) this
    · rcases hmem z hz with hz | ⟨p, hz⟩ <;> rcases hmem z' hz' with hz' | ⟨p', hz'⟩
      · exact hF.uniq z hz z' hz' he
      · obtain ⟨b, h1, _⟩ := (hL2 _ hz').2.old
        have h2 := hL1n z hz
        rw [he] at h2
        rw [show look st.bl z'.1 = _ from h1] at h2
        cases h2
      · obtain ⟨b, h1, _⟩ := (hL2 _ hz).2.old
        have h2 := hL1n z' hz'
        rw [← he] at h2
        rw [show look st.bl z.1 = _ from h1] at h2
        cases h2
      · exact congrArg (·.2) (hnd _ hz _ hz' he)
    · rcases hmem z hz with hz | ⟨p, hz⟩
      · exact .inl (hL1n z hz)
      · exact .inr ⟨(hL2 _ hz).2.hv, (hL2 _ hz).2.old⟩
    · rw [look_append] at hb
      cases hl : look (exRs d (m2 m) rs y 0).2 i with
      | some x =>
        rw [hl] at hb
        cases hb
        rw [hq] at hl
        obtain ⟨v, hv⟩ := look_map hl
        exact .inl ⟨v, by simp [hv]⟩
      | none =>
        rw [hl] at hb
        rcases hA i b hb with ⟨z, hz, rfl, rfl⟩ | ⟨h1, h2, h3⟩
        · exact .inl ⟨z.2.2.2, List.mem_append_right _ (List.mem_map.2 ⟨z, hz, rfl⟩)⟩
        · refine .inr ⟨fun z hz => ?_, h3, fun g hg => ?_⟩
          · rcases hmem z hz with hz | ⟨p, hz⟩
            · rintro rfl
              rw [hL1n z hz] at h3
              cases h3
            · exact h1 _ hz
          · unfold ownOf
            rw [hg]
            exact posOf_none h2
    · rw [look_append]
      cases hl : look (exRs d (m2 m) rs y 0).2 i with
      | some x => rfl
      | none => exact hBs i hi
    · rcases hmem z hz with hz | ⟨p, hz⟩
      · rw [look_append, hq]
        have := look_map_mem hz
        cases hl : look (L1.map fun z => (z.1, some z.2.1)) z.1 with
        | some x => rfl
        | none => rw [hl] at this; cases this
      · rw [look_append]
        cases hl : look (exRs d (m2 m) rs y 0).2 z.1 with
        | some x => rfl
        | none => exact hC _ hz
    · refine .inr ⟨fun d2 g l' he => (by cases he), hl, ?_⟩
      obtain ⟨cs, e, _, h2, _⟩ := h.bx d' l hl
      unfold ownOf
      rw [h2]
  obtain ⟨hinv, hcell⟩ := h.back hB
  have hrel := hcv.imp fun c v hc => relCV_of hcell (CVFr.weak (L' := L1 ++ L2.map (·.2)) (fun z hz => by simp [hz]) hc)
  have h2 := hinv.put d (blt_lt hd) (ret_rel (R := fun _ _ => True) hrel)
  exact hK _ _ _ _ h2 hr

theorem look_mapP {L : List (Nat × Nat × Blk × Value)} {i : Nat} : ∀ {x : Option Blk}, look (L.map fun z => (z.2.1, some z.2.2.1)) i = some x → ∃ z ∈ L, z.2.1 = i ∧ x = some z.2.2.1 := by
  induction L with
  | nil => intro x h; simp [look] at h
  | cons z L ih =>
    intro x h
    rw [List.map_cons, look_cons] at h
    by_cases hi : z.2.1 = i
    · rw [if_pos hi] at h
      exact ⟨z, by simp, hi, (Option.some.inj h).symm⟩
    · rw [if_neg hi] at h
      obtain ⟨y, h1, h2⟩ := ih h
      exact ⟨y, by simp [h1], h2⟩
theorem look_mapP_none {L : List (Nat × Nat × Blk × Value)} {i : Nat} (h : look (L.map fun z => (z.2.1, some z.2.2.1)) i = none) : ∀ z ∈ L, z.2.1 ≠ i := by
  induction L with
  | nil => intro z hz; simp at hz
  | cons y L ih =>
    rw [List.map_cons, look_cons] at h
    by_cases hi : y.2.1 = i
    · rw [if_pos hi] at h; cases h
    · rw [if_neg hi] at h
      intro z hz
      rcases List.mem_cons.1 hz with rfl | hz
      · exact hi
      · exact ih h z hz

theorem imV_cells {bx : List (Nat × List AC)} {bl : List (Nat × Option Blk)} {p : Ty × Bool} {c : CV} {u : Value} {x0 : p.1.D} (hu : RelCV G w bx bl c u) (hi : imV st p c = some x0) :
    ∃ vs, im st p.1 c.cells = some (x0, []) ∧ All2 (RelC G w bx bl) c.cells vs ∧ u = (match p.2 with | true => .agg vs.toArray | false => vs.headD undef) ∧ (p.2 = false → vs.length = 1) := by
  obtain ⟨t, b⟩ := p
  cases c with
  | agg l =>
    cases b with
    | false => simp [imV] at hi
    | true =>
      simp only [imV] at hi
      split at hi
      · rename_i z hz
        cases hi
        obtain ⟨vs, hv, hrel⟩ := hu
        exact ⟨vs.toList, hz, hrel, by rw [hv, Array.toArray_toList], fun hf => by cases hf⟩
      · cases hi
  | c x =>
    cases b with
    | true => simp [imV] at hi
    | false =>
      simp only [imV] at hi
      split at hi
      · rename_i z hz
        cases hi
        exact ⟨[u], hz, ⟨hu, trivial⟩, rfl, fun _ => rfl⟩
      · cases hi

theorem cvCells_one (c : CV) : cvCells [c] = c.cells := by simp [cvCells]

theorem back_own2 (h : Inv w0 G st a w) {con : Con2} {f : Bool} (hpm : con.pm = .own f) {ok : Nat → Prop} {w' : World} {g0 : Nat} {u : Value} {y : Args con.rs × Args con.qs} {us : List Value} (hok : ∀ g, ok g → RO G false g) {c : CV}
    (hu : RelCV G w st.bx st.bl c u) {p : Ty × Bool} (hp : nth? con.ps con.i = some p) (hqs : QsOk con) {x0 : p.1.D} (him : imV st p c = some x0) (hrk : resOk st (pmM f) [] c.cells = true)
    (hres : Res2 con w w' ok (fun g => G.nw g ∧ (G.own g = none ∨ (ownOf G (cvCells [c]) g).isSome = true)) (ownOf G (cvCells [c])) g0 u y us) (hK0 : Keeps (fun g => (ownOf G (cvCells [c]) g).isSome = true) w w') {d : Tmp}
    (hr : backOwn con.rs con.qs con.m st c d y k = some r) (hK : Goes w0 k r K) : K (a.put (some d) (retVal us)) w' := by
  obtain ⟨own', hnew, hsp, hres⟩ := hres
  rw [hpm] at hsp
  obtain ⟨ps, i, pm, rs, m, qs, g⟩ := con
  dsimp only at *
  unfold backOwn at hr
  obtain ⟨hc, hr⟩ := ck_some hr
  simp only [Bool.and_eq_true, Bool.or_eq_true] at hc
  obtain ⟨⟨⟨hm, hfn⟩, hd⟩, hflat⟩ := hc
  have hm' : m = 2 ∨ m = 3 := hm.imp beq_nat beq_nat
  have hres' : ResFr w' (fun g => own' g = none ∧ ((G.nw g ∧ (G.own g = none ∨ (ownOf G (cvCells [c]) g).isSome = true)) ∨ (m2 m = false ∧ ok g))) own' rs y.1 0 us := by
    rcases hm' with rfl | rfl <;> exact hres
  have hids := resOk_ids (st := st) (m := pmM f) (by cases f <;> simp [pmM]) hrk
  have hcell := cvCells_one c
  split at hr
  · -- gone
    refine back_own2_core h hok hnew hflat hres' hK0 hd hfn (L2 := []) (bl3 := (st.gone c.cells).bl) (fun i b hb => .inr ?_) (fun i hi => ?_) (fun z hz => by simp at hz) (fun z hz => by simp at hz) (fun z hz => by simp at hz) (fun z hz => by simp at hz) hr hK
    · rw [gone_look] at hb
      split at hb
      · cases hb
      · exact ⟨fun z hz => by simp at hz, by rw [hcell]; assumption, hb⟩
    · rw [gone_look]
      split
      · rfl
      · exact hi
  · -- kept
    rename_i q y hq
    have hpq : q = p := by
      rcases hqs with he | ⟨p', he, hn⟩
      · cases he
      · cases he
        rw [hp] at hn
        exact (Option.some.inj hn).symm
    subst hpq
    obtain ⟨v, vs', he, ⟨cs, hfr, hv⟩, _⟩ := hsp
    have hvu : v = u := (List.cons.inj he).1.symm
    subst hvu
    obtain ⟨vs, himc, hrel, hval, hlen⟩ := imV_cells hu him
    have hcs : vs = cs ++ [] := by
      rw [List.append_nil]
      cases hq2 : q.2 with
      | true =>
        rw [hq2] at hval hv
        rw [hval] at hv
        have := Value.agg.inj hv
        simpa using congrArg Array.toList this
      | false =>
        rw [hq2] at hval hv
        have h1 := hlen hq2
        have h2 : cs.length = 1 := by
          have h3 := FrC.len hfr
          obtain ⟨vs1, vs2, e2, h4, h5, _⟩ := im_rd (ok := fun _ => True) (any_rd' h) hrel himc
          have h6 := h4.len
          have h7 := All2.len h5
          have : vs2 = [] := List.eq_nil_of_length_eq_zero h7.symm
          subst this
          rw [List.append_nil] at e2
          subst e2
          rw [h3, ← h6]
          exact h1
        match vs, cs, h1, h2, hval, hv with
        | [v1], [v2], _, _, hval, hv =>
          have : v1 = v2 := by
            have e3 : v = v1 := hval
            have e4 : v = v2 := hv
            rw [← e3, ← e4]
          rw [this]
    obtain ⟨l1, L, e1, _, _, e4, e5, e6, e7⟩ := exKeep_fr (f := m2 m) himc hrel hids.2.2 hfr hcs
    rw [List.append_nil] at e1
    have hnd : ∀ z ∈ L, ∀ z' ∈ L, z.2.1 = z'.2.1 → z = z' := by
      have hn : (L.map (·.2.1)).Nodup := by rw [e5, ← e1]; exact hids.1
      intro z hz z' hz' he
      clear e4 e5 e6 e7
      induction L with
      | nil => simp at hz
      | cons q L ih =>
        rw [List.map_cons, List.nodup_cons] at hn
        rcases List.mem_cons.1 hz with e1 | h1 <;> rcases List.mem_cons.1 hz' with e2 | h2
        · rw [e1, e2]
        · exact absurd (List.mem_map.2 ⟨z', h2, by rw [← he, e1]⟩) hn.1
        · exact absurd (List.mem_map.2 ⟨z, h1, by rw [he, e2]⟩) hn.1
        · exact ih hn.2 h1 h2
    refine back_own2_core h hok hnew hflat hres' hK0 hd hfn (L2 := L) (bl3 := (exKeep (m2 m) q.1 y.2.1 c.cells).1 ++ st.bl) (fun i b hb => ?_) (fun i hi => ?_) (fun z hz => ?_) hnd (fun z hz => ⟨(e6 z hz).1, (e6 z hz).2.2⟩) e7 hr hK
    · rw [e4, look_append] at hb
      cases hl : look (L.map fun z => (z.2.1, some z.2.2.1)) i with
      | some x =>
        rw [hl] at hb
        dsimp only at hb
        obtain ⟨z, hz, h1, h2⟩ := look_mapP hl
        rw [h2] at hb
        exact .inl ⟨z, hz, h1, Option.some.inj (Option.some.inj hb)⟩
      | none =>
        rw [hl] at hb
        have hno := look_mapP_none hl
        refine .inr ⟨hno, fun hi => ?_, hb⟩
        rw [hcell, e1, ← e5] at hi
        obtain ⟨z, hz, rfl⟩ := List.mem_map.1 hi
        exact hno z hz rfl
    · rw [e4, look_append]
      cases hl : look (L.map fun z => (z.2.1, some z.2.2.1)) i with
      | some x => rfl
      | none => exact hi
    · rw [e4, look_append]
      cases hl : look (L.map fun z => (z.2.1, some z.2.2.1)) z.2.1 with
      | some x => rfl
      | none => exact absurd rfl (look_mapP_none hl z hz)
  · cases hr

/-- A box. -/
def boxOwn (g0 : Nat) (g : Nat) : Option Nat := if g = g0 then some 0 else none
theorem boxOwn_none {g0 g : Nat} (h : g ≠ g0) : boxOwn g0 g = none := by simp [boxOwn, h]

theorem back_box_inv (h : Inv w0 G st a w) {b : Nat} {l0 : List AC} (hl0 : look st.bx b = some l0) {ok : Nat → Prop} {w' : World} (hok : ∀ g, ok g → RO G false g) {own' : Nat → Option Nat}
    (hnew : ∀ g j, own' g = some j → w.heap.size ≤ g ∨ (boxOwn (G.hb b) g).isSome = true) (hK0 : Keeps (fun g => (boxOwn (G.hb b) g).isSome = true) w w') {p : Ty × Bool} {z : p.1.D} {cs : Array Value} {e : TypeId} {n : Nat}
    (hj : ∃ j, own' (G.hb b) = some j ∧ n ≤ j) (hh : w'.heap[G.hb b]? = some (.cells cs e (0, 0)))
    (hrd : Rd w' (fun g => own' g = none ∧ ((G.nw g ∧ (G.own g = none ∨ (boxOwn (G.hb b) g).isSome = true)) ∨ ok g)) p.1 z cs.toList) {q : List (Nat × Option Blk)} {L1 : List (Nat × Blk × Value)} {d : Nat} {f : Bool}
    (hF : Fr w' (fun g => own' g = none ∧ ((G.nw g ∧ (G.own g = none ∨ (boxOwn (G.hb b) g).isSome = true)) ∨ (f = false ∧ ok g))) f own' d 0 (0 + n) q L1) (hfn : freshNames q st = true) :
    Inv w0 (G.back w.heap.size (boxOwn (G.hb b)) own' L1 (some (b, G.hb b, ex false p.1 z))) { st with bx := (b, ex false p.1 z) :: st.bx, bl := q ++ st.bl } a w' ∧
      ∀ c v, CellFr L1 c v → RelC (G.back w.heap.size (boxOwn (G.hb b)) own' L1 (some (b, G.hb b, ex false p.1 z))) w' ((b, ex false p.1 z) :: st.bx) (q ++ st.bl) c v := by
  obtain ⟨cs0, e0, _, hown, _⟩ := h.bx b l0 hl0
  have hq := hF.q
  have hpass : ∀ g j, boxOwn (G.hb b) g = some j → (G.own g).isSome = true := by
    intro g j hg
    unfold boxOwn at hg
    split at hg
    · rename_i he
      rw [he, hown]
      rfl
    · cases hg
  have hpassh : ∀ g j, boxOwn (G.hb b) g = some j → G.own g ≠ some .hid := by
    intro g j hg
    unfold boxOwn at hg
    split at hg
    · rename_i he
      rw [he, hown]
      simp
    · cases hg
  have hL1n : ∀ z ∈ L1, look st.bl z.1 = none := fun z hz => freshNames_ne hfn z.1 (by rw [hq]; exact look_map_mem hz)
  have hpos : ∀ z ∈ L1, ∀ g, z.2.2.ownBlock = some g → ∃ j, own' g = some j ∧ j < n ∧ z.1 = d * 64 + j := by
    intro z hz g hg
    obtain ⟨h1, h2, h3⟩ := hF.rows z hz
    exact ⟨_, h3.blk g hg, by omega, by omega⟩
  refine h.back (okE := fun f g => own' g = none ∧ ((G.nw g ∧ (G.own g = none ∨ (boxOwn (G.hb b) g).isSome = true)) ∨ (f = false ∧ RO G false g))) ⟨hK0, hpass, hpassh, hnew, fun f g hg => back_els h hpass _ _ f g hg, fun y hy => ?_, fun y hy y' hy' g hg hg' => ?_, hF.uniq,
    fun y hy => .inl (hL1n y hy), fun i bk hb => ?_, fun i hi => ?_, fun y hy => ?_, fun d' l hl => ?_, fun d' hd => isSome_cons _ trivial hd, fun d' g l he => ?_⟩
  · obtain ⟨h1, h2, h3⟩ := hF.rows y hy
    obtain ⟨rows, h4, h5⟩ := h3.row
    refine ⟨h3.wr, h3.pos, ⟨rows, h4, els_weak (fun g hg => ⟨hg.1, ?_⟩) h5⟩, fun g hg => by rw [h3.blk g hg]; rfl⟩
    rw [h3.nf]
    exact hg.2.imp_right fun h => ⟨h.1, hok g h.2⟩
  · obtain ⟨j, h1, _, h2⟩ := hpos y hy g hg
    obtain ⟨j', h3, _, h4⟩ := hpos y' hy' g hg'
    rw [h1] at h3
    cases h3
    exact hF.uniq y hy y' hy' (by omega)
  · rw [look_append] at hb
    cases hl : look q i with
    | some x =>
      rw [hl] at hb
      cases hb
      rw [hq] at hl
      obtain ⟨v, hv⟩ := look_map hl
      exact .inl ⟨v, hv⟩
    | none =>
      rw [hl] at hb
      refine .inr ⟨fun y hy => ?_, hb, fun g hg => ?_⟩
      · rintro rfl
        have hb' : look st.bl y.1 = some (some bk) := hb
        rw [hL1n y hy] at hb'
        cases hb'
      · refine boxOwn_none ?_
        rintro rfl
        rw [hown] at hg
        cases hg
  · rw [look_append]
    cases hl : look q i with
    | some x => rfl
    | none => exact hi
  · rw [look_append, hq]
    have := look_map_mem hy
    cases hl : look (L1.map fun z => (z.1, some z.2.1)) y.1 with
    | some x => rfl
    | none => rw [hl] at this; cases this
  · rw [look_cons] at hl
    by_cases hdd : b = d'
    · subst hdd
      rw [if_pos rfl] at hl
      cases hl
      exact .inl ⟨_, rfl⟩
    · rw [if_neg hdd] at hl
      refine .inr ⟨fun d2 g l' he => (by cases he; exact hdd), hl, ?_⟩
      obtain ⟨cs, e, _, h2, _⟩ := h.bx d' l hl
      refine boxOwn_none ?_
      intro he
      rw [he, hown] at h2
      cases h2
      exact hdd rfl
  · cases he
    obtain ⟨j, hj1, hj2⟩ := hj
    refine ⟨by simp [look_cons], .inr rfl, ⟨by rw [hj1]; rfl, fun y hy hg => ?_⟩, cs, e, false, p.1, z, hh, rfl, rd_weak (fun g hg => ⟨hg.1, hg.2.imp_right fun h => ⟨rfl, hok g h⟩⟩) hrd⟩
    obtain ⟨j', h1, h2, _⟩ := hpos y hy _ hg
    rw [hj1] at h1
    cases h1
    omega

theorem back_box (h : Inv w0 G st a w) {con : Con2} (hpm : con.pm = .box) {ok : Nat → Prop} {w' : World} {u : Value} {y : Args con.rs × Args con.qs} {us : List Value} (hok : ∀ g, ok g → RO G false g) {b off : Nat} {l0 : List AC} (hl0 : look st.bx b = some l0)
    {p : Ty × Bool} (hp : nth? con.ps con.i = some p) (hp2 : p.2 = true) (hqs : QsOk con)
    (hres : Res2 con w w' ok (fun g => G.nw g ∧ (G.own g = none ∨ (boxOwn (G.hb b) g).isSome = true)) (boxOwn (G.hb b)) (G.hb b) u y us) (hK0 : Keeps (fun g => (boxOwn (G.hb b) g).isSome = true) w w') {d : Tmp}
    (hr : backBox con.rs con.qs con.m st (.c (.ptr b off)) d y k = some r) (hK : Goes w0 k r K) : K (a.put (some d) (retVal us)) w' := by
  obtain ⟨own', hnew, hsp, hres⟩ := hres
  rw [hpm] at hsp
  obtain ⟨hj, cs, e, hh, hargs⟩ := hsp
  obtain ⟨ps, i, pm, rs, m, qs, g⟩ := con
  dsimp only at *
  unfold backBox at hr
  split at hr
  · rename_i _ q y b1 o1 hcv
    cases hcv
    have hpq : q = p := by
      rcases hqs with he | ⟨p', he, hn⟩
      · cases he
      · cases he
        rw [hp] at hn
        exact (Option.some.inj hn).symm
    subst hpq
    have hrd := agg_rd hp2 hargs
    have nil : Fr w' (fun g => own' g = none ∧ ((G.nw g ∧ (G.own g = none ∨ (boxOwn (G.hb b) g).isSome = true)) ∨ (false = false ∧ ok g))) false own' d 0 (0 + nOf rs) [] [] := Fr.nil
    split at hr
    · obtain ⟨hc, hr⟩ := ck_some hr
      rw [Bool.and_eq_true] at hc
      obtain ⟨hinv, _⟩ := back_box_inv h hl0 hok hnew hK0 hj hh hrd nil rfl
      have hrel := exF_rel (f := false) (bx := (b, ex false q.1 y.2.1) :: st.bx) (bl := [] ++ st.bl) hc.2 (args_weak (fun g hg => back_els (own' := own') h (own0 := boxOwn (G.hb b)) (fun g j hg => by
        obtain ⟨_, _, _, hown, _⟩ := h.bx b l0 hl0
        unfold boxOwn at hg
        split at hg
        · rename_i he; rw [he, hown]; rfl
        · cases hg) [] (some (b, G.hb b, ex false q.1 y.2.1)) false g ⟨hg.1, hg.2.imp_right fun h => ⟨rfl, hok g h⟩⟩) hres)
      have h2 := hinv.put d (blt_lt hc.1) (ret_rel (R := fun _ _ => True) hrel)
      exact hK _ _ _ _ h2 hr
    · obtain ⟨hc, hr⟩ := ck_some hr
      rw [Bool.and_eq_true] at hc
      obtain ⟨hinv, _⟩ := back_box_inv h hl0 hok hnew hK0 hj hh hrd nil rfl
      have hrel := exF_rel (f := true) (bx := (b, ex false q.1 y.2.1) :: st.bx) (bl := [] ++ st.bl) hc.2 (args_weak (fun g hg => back_els (own' := own') h (own0 := boxOwn (G.hb b)) (fun g j hg => by
        obtain ⟨_, _, _, hown, _⟩ := h.bx b l0 hl0
        unfold boxOwn at hg
        split at hg
        · rename_i he; rw [he, hown]; rfl
        · cases hg) [] (some (b, G.hb b, ex false q.1 y.2.1)) true g ⟨hg.1, .inl hg.2⟩) hres)
      have h2 := hinv.put d (blt_lt hc.1) (ret_rel (R := fun _ _ => True) hrel)
      exact hK _ _ _ _ h2 hr
    · obtain ⟨hc, hr⟩ := ck_some hr
      simp only [Bool.and_eq_true, Bool.or_eq_true] at hc
      obtain ⟨⟨⟨hm, hfn⟩, hd⟩, hflat⟩ := hc
      have hres' : ResFr w' (fun g => own' g = none ∧ ((G.nw g ∧ (G.own g = none ∨ (boxOwn (G.hb b) g).isSome = true)) ∨ (m2 m = false ∧ ok g))) own' rs y.1 0 us := by
        rcases hm.imp beq_nat beq_nat with rfl | rfl <;> exact hres
      obtain ⟨L, hF, hcv⟩ := exRs_fr (id := d) (f := m2 m) hflat hres'
      obtain ⟨hinv, hcell⟩ := back_box_inv h hl0 hok hnew hK0 hj hh hrd hF hfn
      have hrel := hcv.imp fun c v hc => relCV_of hcell hc
      have h2 := hinv.put d (blt_lt hd) (ret_rel (R := fun _ _ => True) hrel)
      exact hK _ _ _ _ h2 hr
  · cases hr

theorem spCV_at {i : Nat} {os : List Operand} {o : Operand} (h : nth? os i = some o) : spCV st i os = st.evc o := by
  unfold spCV
  rw [h]

theorem imV_agg {st : St} {p : Ty × Bool} {l : List AC} {y : p.1.D} (h : imV st p (.agg l) = some y) : p.2 = true ∧ im st p.1 l = some (y, []) := by
  obtain ⟨t, b⟩ := p
  cases b with
  | false => simp [imV] at h
  | true =>
    simp only [imV] at h
    split at h
    · rename_i z hz
      cases h
      exact ⟨rfl, hz⟩
    · cases h
theorem imArgs2_at {st : St} {pm : PM} : ∀ (i : Nat) (ps : List (Ty × Bool)) (os : List Operand) (x : Args ps), imArgs2 st pm i ps os = some x → ∃ op p y, nth? os i = some op ∧ nth? ps i = some p ∧ im2 st pm p op = some y
  | 0, [], os, x, hi => by cases os <;> simp [imArgs2] at hi
  | _ + 1, [], os, x, hi => by cases os <;> simp [imArgs2] at hi
  | 0, p :: ps, [], x, hi => by simp [imArgs2] at hi
  | _ + 1, p :: ps, [], x, hi => by simp [imArgs2] at hi
  | 0, p :: ps, o :: os, x, hi => by
    simp only [imArgs2] at hi
    split at hi
    · rename_i y hy
      exact ⟨o, p, y, rfl, rfl, hy⟩
    · cases hi
  | i + 1, p :: ps, o :: os, x, hi => by
    simp only [imArgs2] at hi
    split at hi
    · split at hi
      · rename_i ys hys
        exact imArgs2_at i ps os ys hys
      · cases hi
    · cases hi

theorem call2_core {f : FuncId} {con : Con2} (hcon : ConAt2 P w0 f con) (h : Inv w0 G st a w) {args : List Operand} {d : Tmp} {x : Args con.ps} {y : Args con.rs × Args con.qs} (hg : con.g x = some y) (hx : imArgs2 st con.pm con.i con.ps args = some x)
    (hfz : ∀ t c v xs, c ∈ rdArgs st con.pm con.i args → RelC G w st.bx st.bl c v → slData st t c = some xs → ∀ e, Rd w (RO G false) (.sl e t) xs [v])
    (hr : (match con.pm with
      | .rd => match rdM con.m with
        | some f => backRd f con.rs st d y.1 k
        | none => none
      | .own _ => backOwn con.rs con.qs con.m st (spCV st con.i args) d y k
      | .box => backBox con.rs con.qs con.m st (spCV st con.i args) d y k) = some r) (hK : Goes w0 k r K) :
    Calls P f (args.map a.eval).toArray w fun e w' => ∃ v, e = .returned v ∧ K (a.put (some d) v) w' := by
  have hqs := hcon.2.1
  obtain ⟨op, p, y0, ho1, hp1, hy0⟩ := imArgs2_at con.i con.ps args x hx
  rw [spCV_at ho1] at hr
  cases hpm : con.pm with
  | rd =>
    rw [hpm] at hr hy0
    dsimp only at hr
    split at hr
    · rename_i fl hm
      obtain ⟨_, _, _, _, _, hin⟩ := argsIn_of (ok := RO G false) (nw := fun g => G.nw g ∧ (G.own g = none ∨ (none : Option Nat).isSome = true)) (own0 := fun _ => none) (g0 := 0) h con.i con.ps args x hfz hx (fun p op y h1' h2 h3 h4 => by
        have h4 := h4 hpm
        rw [hpm] at h3 ⊢
        exact im1_rd h h4 h3)
      obtain ⟨o', p', e1, _, _, hin⟩ := argsIn_of (ok := RO G false) (nw := fun g => G.nw g ∧ (G.own g = none ∨ (none : Option Nat).isSome = true)) (own0 := fun _ => none) (g0 := 0) h con.i con.ps args x hfz hx (fun p op y h1' h2 h3 h4 => by
        have h4 := h4 hpm
        rw [hpm] at h3 ⊢
        exact im1_rd h h4 h3)
      refine Calls.mono (hcon.2.2 x y hg w h.below _ _ _ 0 _ _ (handed_of h (own0 := fun _ => none) fun g j hj => by cases hj) hin) fun e w' he => ?_
      obtain ⟨us, rfl, hres, hB⟩ := he
      exact ⟨_, rfl, back_rd h (fun g hg => hg) hm hres hB hr hK⟩
    · cases hr
  | own fl =>
    rw [hpm] at hr
    dsimp only at hr
    have key : ∀ p op y, im2 st con.pm p op = some y → resOk st (pmM fl) [] (st.evc op).cells = true ∧ rowsOk st [p] [st.evc op] = true ∧ im1 st p op = some y := by
      intro p op y h3
      rw [hpm] at h3
      simp only [im2] at h3
      split at h3
      · rename_i hc
        rw [Bool.and_eq_true] at hc
        exact ⟨hc.1, hc.2, h3⟩
      · cases h3
    obtain ⟨o', p', e1, _, _, hin⟩ := argsIn_of (ok := RO G false) (nw := fun g => G.nw g ∧ (G.own g = none ∨ (ownOf G (cvCells [st.evc op]) g).isSome = true)) (own0 := ownOf G (cvCells [st.evc op])) (g0 := 0) h con.i con.ps args x hfz hx (fun p' op' y h1' h2 h3 h4 => by
      obtain ⟨k1, k2, k3⟩ := key p' op' y h3
      have : op' = op := by rw [ho1] at h1'; exact (Option.some.inj h1').symm
      subst this
      rw [hpm]
      have hE : ∀ g, RO G (m2 (pmM fl)) g → ownOf G (cvCells [st.evc op']) g = none ∧ ((G.nw g ∧ (G.own g = none ∨ (ownOf G (cvCells [st.evc op']) g).isSome = true)) ∨ (fl = false ∧ RO G false g)) := by
        intro g hg
        refine ⟨by simp [ownOf, hg.1], ?_⟩
        rcases hg.2 with h5 | h5
        · exact .inl ⟨h5, .inl hg.1⟩
        · refine .inr ⟨?_, hg.1, .inr ⟨rfl, h5.2⟩⟩
          cases fl with
          | false => rfl
          | true => cases h5.1
      obtain ⟨hres, _⟩ := res_own (m := pmM fl) (by cases fl <;> simp [pmM]) hE h (cvCells [st.evc op']) [] [p'] [st.evc op'] [a.eval op'] (y, ()) (pre := []) (seen := []) ⟨h.evc op', trivial⟩ (by simp) (fun id len hm => by simp at hm) (by rw [List.append_nil, cvCells_one]; exact k1) k2 (by
        have : imV st p' (st.evc op') = some y := k3
        simp [imVs, this])
      obtain ⟨v, vs', he, hv, _⟩ := hres
      cases he
      exact hv)
    obtain ⟨k1, k2, k3⟩ := key p op y0 hy0
    have : o' = op := by rw [ho1] at e1; exact (Option.some.inj e1).symm
    subst this
    refine Calls.mono (hcon.2.2 x y hg w h.below _ _ _ 0 _ _ (handed_of h (own0 := ownOf G (cvCells [st.evc o'])) fun g j hj => own0_pass hj) hin) fun e w' he => ?_
    obtain ⟨us, rfl, hres, hB⟩ := he
    exact ⟨_, rfl, back_own2 h hpm (fun g hg => hg) (h.evc o') hp1 hqs k3 k1 hres hB hr hK⟩
  | box =>
    rw [hpm] at hr
    dsimp only at hr
    have key : ∀ p op y, im2 st con.pm p op = some y → ∃ b l, st.evc op = .c (.ptr b 0) ∧ look st.bx b = some l ∧ imV st p (.agg l) = some y := by
      intro p op y h3
      rw [hpm] at h3
      simp only [im2] at h3
      split at h3
      · rename_i b hb
        split at h3
        · rename_i l hl
          exact ⟨b, l, hb, hl, h3⟩
        · cases h3
      · cases h3
    obtain ⟨b, l, hb, hl, him⟩ := key p op y0 hy0
    have hp2 : p.2 = true := (imV_agg him).1
    have hpass : ∀ g j, boxOwn (G.hb b) g = some j → (G.own g).isSome = true := by
      intro g j hg
      obtain ⟨_, _, _, hown, _⟩ := h.bx b l hl
      unfold boxOwn at hg
      split at hg
      · rename_i he; rw [he, hown]; rfl
      · cases hg
    obtain ⟨o', p', e1, _, _, hin⟩ := argsIn_of (ok := RO G false) (nw := fun g => G.nw g ∧ (G.own g = none ∨ (boxOwn (G.hb b) g).isSome = true)) (own0 := boxOwn (G.hb b)) (g0 := G.hb b) h con.i con.ps args x hfz hx (fun p' op' y h1' h2 h3 h4 => by
      have : op' = op := by rw [ho1] at h1'; exact (Option.some.inj h1').symm
      subst this
      obtain ⟨b', l', hb', hl', him'⟩ := key p' op' y h3
      rw [hb] at hb'
      cases hb'
      rw [hl] at hl'
      cases hl'
      rw [hpm]
      obtain ⟨cs, e, hh, hown, hrel⟩ := h.bx b l hl
      have hv : a.eval op' = .pointer (some ⟨G.hb b, 0, none⟩) := by
        have := h.evc op'
        rw [hb] at this
        exact this.2
      refine ⟨hv, by simp [boxOwn], cs, e, hh, ?_⟩
      have hcells : ∀ t c v xs, c ∈ l → RelC G w st.bx st.bl c v → slData st t c = some xs → ∀ e, Rd w (RO G false) (.sl e t) xs [v] := by
        have key2 : ∀ (i : Nat) (os : List Operand), nth? os i = some op' → ∀ c ∈ l, c ∈ rdArgs st .box i os := by
          intro i
          induction i with
          | zero =>
            intro os hos c hc
            cases os with
            | nil => cases hos
            | cons o os =>
              cases hos
              simp [rdArgs, hb, hl, hc]
          | succ i ih =>
            intro os hos c hc
            cases os with
            | nil => cases hos
            | cons o os => simp [rdArgs, ih os hos c hc]
        exact fun t c v xs hm => hfz t c v xs (by rw [hpm]; exact key2 con.i args h1' c hm)
      obtain ⟨vs1, vs2, e2, hrd, hr2, _⟩ := im_rd hcells hrel (imV_agg him').2
      have : vs2 = [] := List.eq_nil_of_length_eq_zero hr2.len.symm
      subst this
      rw [List.append_nil] at e2
      rw [e2]
      exact hrd)
    have : o' = op := by rw [ho1] at e1; exact (Option.some.inj e1).symm
    subst this
    refine Calls.mono (hcon.2.2 x y hg w h.below _ _ _ _ _ _ (handed_of h hpass) hin) fun e w' he => ?_
    obtain ⟨us, rfl, hres, hB⟩ := he
    rw [hb] at hr
    exact ⟨_, rfl, back_box h hpm (fun g hg => hg) hl hp1 hp2 hqs hres hB hr hK⟩

theorem sound_call2 {f : FuncId} {con : Con2} (hcon : ConAt2 P w0 f con) (h : Inv w0 G st a w) {args : Array Operand} {ts : Array TypeId} (ho : o.op = .call { callee := .value (.func f), args := args, argTypes := ts })
    (hr : callCon2 con st o.dst args.toList k = some r) (hK : Goes w0 k r K) : o.wp P a w K Q := by
  unfold Oper.wp
  rw [run_call hcon.1 ho]
  unfold callCon2 at hr
  dsimp only at hr
  obtain ⟨G1, h1, hx1, hs1, hsd⟩ := h.freeze (rdArgs st con.pm con.i args.toList)
  split at hr
  · rename_i x hx
    cases hg : con.g x with
    | none => rw [hg] at hr; cases hr
    | some y =>
      rw [hg] at hr
      simp only [Option.bind_some] at hr
      have hargs : (args.map a.eval) = (args.toList.map a.eval).toArray := by rw [← Array.toList_map, Array.toArray_toList]
      show Calls P f _ w _
      rw [hargs]
      cases hd : o.dst with
      | none => rw [hd] at hr; cases hr
      | some d =>
        rw [hd] at hr
        dsimp only at hr
        refine Calls.mono (call2_core hcon h1 hg hx (fun t c v xs hm => frozen_rd' h1 (nf := false) (fun hn => by cases hn) (fun hn => by cases hn) t c v xs (by rw [rdArgs_same hsd] at hm; exact hm)) hr hK) fun e w' he => ?_
        obtain ⟨v, rfl, hk⟩ := he
        exact hk
  · cases hr
end
end Go.Am
