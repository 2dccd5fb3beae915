/- Each operation of the abstract machine is Go's own, part five. No condition. -/
import Derived.Test.YtijjjmdoflbmfaaGreatDoorAmOps4
set_option linter.unusedVariables false
set_option linter.unusedSimpArgs false
namespace Go.Am
open Go.RowKit

/-- Cells written one behind the other, from place o on. -/
def wrC : List Value → Nat → List Value → List Value × (Nat × List Value)
  | [], o, vs => ([], (o, vs))
  | u :: c, o + 1, vs => let q := wrC c o vs; (u :: q.1, q.2)
  | u :: c, 0, [] => (u :: c, (0, []))
  | u :: c, 0, v :: vs => let q := wrC c 0 vs; (v :: q.1, q.2)

theorem wrC_nil : ∀ (c : List Value), wrC c 0 [] = (c, (0, []))
  | [] => rfl
  | _ :: _ => rfl
theorem wrC_app : ∀ (c1 c2 : List Value) (o : Nat) (vs : List Value), wrC (c1 ++ c2) o vs = ((wrC c1 o vs).1 ++ (wrC c2 (wrC c1 o vs).2.1 (wrC c1 o vs).2.2).1, (wrC c2 (wrC c1 o vs).2.1 (wrC c1 o vs).2.2).2)
  | [], c2, o, vs => by cases o <;> rfl
  | u :: c1, c2, o + 1, vs => by
    simp only [List.cons_append, wrC, wrC_app c1 c2 o vs]
  | u :: c1, c2, 0, [] => by
    simp only [List.cons_append, wrC, wrC_nil]
  | u :: c1, c2, 0, v :: vs => by
    simp only [List.cons_append, wrC, wrC_app c1 c2 0 vs]

theorem wrC_get : ∀ (c : List Value) (o : Nat) (vs c' : List Value), wrC c o vs = (c', (0, [])) → o + vs.length ≤ c.length ∧ ∀ i, c'[i]? = if o ≤ i ∧ i < o + vs.length then vs[i - o]? else c[i]?
  | [], o, vs, c', h => by
    cases o <;> (simp [wrC] at h)
    obtain ⟨rfl, rfl⟩ := h
    simp
  | u :: c, o + 1, vs, c', h => by
    simp only [wrC] at h
    injection h with h1 h2
    obtain ⟨h3, h4⟩ := wrC_get c o vs (wrC c o vs).1 (by rw [← h2])
    subst h1
    refine ⟨by simp; omega, fun i => ?_⟩
    cases i with
    | zero => simp
    | succ i =>
      simp only [List.getElem?_cons_succ, h4 i]
      have e1 : (o + 1 ≤ i + 1 ∧ i + 1 < o + 1 + vs.length) ↔ (o ≤ i ∧ i < o + vs.length) := by omega
      simp only [e1, show i + 1 - (o + 1) = i - o by omega]
  | u :: c, 0, [], c', h => by
    simp [wrC] at h
    subst h
    refine ⟨by simp, fun i => ?_⟩
    rw [if_neg (by simp)]
  | u :: c, 0, v :: vs, c', h => by
    simp only [wrC] at h
    injection h with h1 h2
    obtain ⟨h3, h4⟩ := wrC_get c 0 vs (wrC c 0 vs).1 (by rw [← h2])
    subst h1
    refine ⟨by simp at h3 ⊢; omega, fun i => ?_⟩
    cases i with
    | zero => simp
    | succ i =>
      simp only [List.getElem?_cons_succ, h4 i]
      by_cases hi : i < vs.length
      · rw [if_pos ⟨by omega, by omega⟩, if_pos ⟨by omega, by simp; omega⟩]
        simp
      · rw [if_neg (by omega), if_neg (by simp; omega)]

theorem splice_get {cur vs : List Value} {p : Nat} (h : p + vs.length ≤ cur.length) (q : Nat) : (cur.take p ++ vs ++ cur.drop (p + vs.length))[q]? = if p ≤ q ∧ q < p + vs.length then vs[q - p]? else cur[q]? := by
  simp only [List.append_assoc, List.getElem?_append, List.length_take, List.getElem?_take, List.getElem?_drop]
  have e : min p cur.length = p := by omega
  rw [e]
  by_cases h1 : q < p
  · rw [if_pos h1, if_pos h1, if_neg (by omega)]
  · rw [if_neg h1]
    by_cases h2 : q - p < vs.length
    · rw [if_pos h2, if_pos ⟨by omega, by omega⟩]
    · rw [if_neg h2, if_neg (by omega)]
      congr 1
      omega

section
variable {P : Program} {w0 : Root} {w : World} {G : Gh} {st : St} {a : Act} {α : Type} {k : St → Option α} {r : α} {K : Act → World → Prop} {Q : Exit → Act → World → Prop} {o : Oper}

theorem setD_same {st st' : St} (h : SameData st st') : ∀ (t : Ty) (x : t.D) (s : Nat × List AC), setD st' t x s = setD st t x s
  | .unit, x, s => rfl
  | .pair t u, x, s => by
    simp only [setD]
    rw [setD_same h t]
    cases setD st t x.1 s with
    | none => rfl
    | some y => dsimp only; rw [setD_same h u]
  | .int k, x, (0, []) => rfl
  | .int k, x, (0, c :: l) => by simp only [setD]; rw [im_same h]
  | .int k, x, (o + 1, l) => rfl
  | .bool, x, (0, []) => rfl
  | .bool, x, (0, c :: l) => by simp only [setD]; rw [im_same h]
  | .bool, x, (o + 1, l) => rfl
  | .str, x, (0, []) => rfl
  | .str, x, (0, c :: l) => by simp only [setD]; rw [im_same h]
  | .str, x, (o + 1, l) => rfl
  | .sl _ _, x, (0, []) => rfl
  | .sl _ _, x, (0, c :: l) => by simp only [setD]; rw [im_same h]
  | .sl _ _, x, (o + 1, l) => rfl

theorem one_cell {t : Ty} {ok : Nat → Prop} {x : t.D} {c : List Value} (h : Rd w ok t x c) (hn : t.n = 1) : ∃ u, c = [u] := by
  have := h.len
  rw [hn] at this
  cases c with
  | nil => cases this
  | cons u c =>
    cases c with
    | nil => exact ⟨u, rfl⟩
    | cons _ _ => simp at this

theorem setD_leaf {ok : Nat → Prop} {bx : List (Nat × List AC)} {bl : List (Nat × Option Blk)} {t : Ty} (hn : t.n = 1) {c : AC} {l : List AC} {vs : List Value} {cs : List Value} {x : t.D} {y : t.D} {rest : List AC}
    (hc : ∀ t c' v xs, c' ∈ c :: l → RelC G w bx bl c' v → slData st t c' = some xs → ∀ e, Rd w ok (.sl e t) xs [v]) (hx : Rd w ok t x cs) (hr : All2 (RelC G w bx bl) (c :: l) vs) (hi : im st t [c] = some (y, rest)) :
    ∃ c' vs', Rd w ok t y c' ∧ All2 (RelC G w bx bl) l vs' ∧ wrC cs 0 vs = (c', (0, vs')) := by
  cases vs with
  | nil => exact hr.elim
  | cons v vs =>
    obtain ⟨u, rfl⟩ := one_cell hx hn
    obtain ⟨vs1, vs2, he, hrd, _, _⟩ := im_rd (l := [c]) (vs := [v]) (fun t c' v' xs hm => hc t c' v' xs (by simp at hm; simp [hm])) ⟨hr.1, trivial⟩ hi
    obtain ⟨z, rfl⟩ := one_cell hrd hn
    have : z = v := by simp at he; exact he.1.symm
    subst this
    exact ⟨[z], vs, hrd, hr.2, by cases vs <;> rfl⟩

theorem setD_rd {ok : Nat → Prop} {bx : List (Nat × List AC)} {bl : List (Nat × Option Blk)} : ∀ {t : Ty} {x : t.D} {cs : List Value} {o : Nat} {l : List AC} {vs : List Value} {y : t.D} {o' : Nat} {l' : List AC},
    (∀ t c v xs, c ∈ l → RelC G w bx bl c v → slData st t c = some xs → ∀ e, Rd w ok (.sl e t) xs [v]) → Rd w ok t x cs → All2 (RelC G w bx bl) l vs → setD st t x (o, l) = some (y, (o', l')) →
    ∃ c' vs', Rd w ok t y c' ∧ All2 (RelC G w bx bl) l' vs' ∧ wrC cs o vs = (c', (o', vs')) ∧ ∀ c ∈ l', c ∈ l
  | .unit, x, cs, o, l, vs, y, o', l', hc, hx, hr, hs => by
    simp only [setD] at hs
    cases hs
    rw [show cs = [] from hx]
    exact ⟨[], vs, rfl, hr, by cases o <;> rfl, fun _ h => h⟩
  | .pair t u, x, cs, o, l, vs, y, o', l', hc, hx, hr, hs => by
    obtain ⟨c1, c2, rfl, hx1, hx2⟩ := hx
    simp only [setD] at hs
    split at hs
    · rename_i y1 s1 h1
      obtain ⟨o1, l1⟩ := s1
      split at hs
      · rename_i y2 s2 h2
        obtain ⟨o2, l2⟩ := s2
        cases hs
        obtain ⟨c1', vs1, hr1, hr2, hw1, hm1⟩ := setD_rd hc hx1 hr h1
        obtain ⟨c2', vs2, hr3, hr4, hw2, hm2⟩ := setD_rd (fun t c v xs hm => hc t c v xs (hm1 c hm)) hx2 hr2 h2
        refine ⟨c1' ++ c2', vs2, ⟨c1', c2', rfl, hr1, hr3⟩, hr4, ?_, fun c hm => hm1 c (hm2 c hm)⟩
        rw [wrC_app, hw1]
        dsimp only
        rw [hw2]
      · cases hs
    · cases hs
  | .int k, x, cs, 0, [], vs, y, o', l', hc, hx, hr, hs => by
    simp only [setD] at hs
    cases hs
    cases vs with
    | nil => exact ⟨cs, [], hx, trivial, wrC_nil cs, fun _ h => h⟩
    | cons _ _ => exact hr.elim
  | .bool, x, cs, 0, [], vs, y, o', l', hc, hx, hr, hs => by
    simp only [setD] at hs
    cases hs
    cases vs with
    | nil => exact ⟨cs, [], hx, trivial, wrC_nil cs, fun _ h => h⟩
    | cons _ _ => exact hr.elim
  | .str, x, cs, 0, [], vs, y, o', l', hc, hx, hr, hs => by
    simp only [setD] at hs
    cases hs
    cases vs with
    | nil => exact ⟨cs, [], hx, trivial, wrC_nil cs, fun _ h => h⟩
    | cons _ _ => exact hr.elim
  | .sl e t, x, cs, 0, [], vs, y, o', l', hc, hx, hr, hs => by
    simp only [setD] at hs
    cases hs
    cases vs with
    | nil => exact ⟨cs, [], hx, trivial, wrC_nil cs, fun _ h => h⟩
    | cons _ _ => exact hr.elim
  | .int k, x, cs, 0, c :: l, vs, y, o', l', hc, hx, hr, hs => by
    simp only [setD] at hs
    split at hs
    · rename_i n rest hi
      cases hs
      obtain ⟨c', vs', h1, h2, h3⟩ := setD_leaf rfl hc hx hr hi
      exact ⟨c', vs', h1, h2, h3, fun _ h => by simp [h]⟩
    · cases hs
  | .bool, x, cs, 0, c :: l, vs, y, o', l', hc, hx, hr, hs => by
    simp only [setD] at hs
    split at hs
    · rename_i n rest hi
      cases hs
      obtain ⟨c', vs', h1, h2, h3⟩ := setD_leaf rfl hc hx hr hi
      exact ⟨c', vs', h1, h2, h3, fun _ h => by simp [h]⟩
    · cases hs
  | .str, x, cs, 0, c :: l, vs, y, o', l', hc, hx, hr, hs => by
    simp only [setD] at hs
    split at hs
    · rename_i n rest hi
      cases hs
      obtain ⟨c', vs', h1, h2, h3⟩ := setD_leaf rfl hc hx hr hi
      exact ⟨c', vs', h1, h2, h3, fun _ h => by simp [h]⟩
    · cases hs
  | .sl e t, x, cs, 0, c :: l, vs, y, o', l', hc, hx, hr, hs => by
    simp only [setD] at hs
    split at hs
    · rename_i n rest hi
      cases hs
      obtain ⟨c', vs', h1, h2, h3⟩ := setD_leaf rfl hc hx hr hi
      exact ⟨c', vs', h1, h2, h3, fun _ h => by simp [h]⟩
    · cases hs
  | .int k, x, cs, o + 1, l, vs, y, o', l', hc, hx, hr, hs => by
    simp only [setD] at hs
    cases hs
    obtain ⟨u, rfl⟩ := one_cell hx rfl
    exact ⟨[u], vs, hx, hr, by cases o <;> rfl, fun _ h => h⟩
  | .bool, x, cs, o + 1, l, vs, y, o', l', hc, hx, hr, hs => by
    simp only [setD] at hs
    cases hs
    obtain ⟨u, rfl⟩ := one_cell hx rfl
    exact ⟨[u], vs, hx, hr, by cases o <;> rfl, fun _ h => h⟩
  | .str, x, cs, o + 1, l, vs, y, o', l', hc, hx, hr, hs => by
    simp only [setD] at hs
    cases hs
    obtain ⟨u, rfl⟩ := one_cell hx rfl
    exact ⟨[u], vs, hx, hr, by cases o <;> rfl, fun _ h => h⟩
  | .sl e t, x, cs, o + 1, l, vs, y, o', l', hc, hx, hr, hs => by
    simp only [setD] at hs
    cases hs
    obtain ⟨u, rfl⟩ := one_cell hx rfl
    exact ⟨[u], vs, hx, hr, by cases o <;> rfl, fun _ h => h⟩

theorem newAll_ro : ∀ {l : List AC}, newAll l = true → ∀ f e t xs, AC.ro f e t xs ∈ l → f = true
  | [], _, f, e, t, xs, hm => by simp at hm
  | c :: l, h, f, e, t, xs, hm => by
    have hl : newAll l = true ∧ ∀ f e t xs, c = .ro f e t xs → f = true := by
      cases c with
      | ro f e t xs =>
        simp only [newAll, Bool.and_eq_true] at h
        exact ⟨h.2, fun f' e' t' xs' e => by cases e; exact h.1⟩
      | _ => exact ⟨h, fun f e t xs e' => by cases e'⟩
    rcases List.mem_cons.1 hm with hm | hm
    · exact hl.2 f e t xs hm.symm
    · exact newAll_ro hl.1 f e t xs hm
theorem ownNew_f : ∀ {l : List AC}, ownNew st l = true → ∀ id len, AC.own id len ∈ l → ∃ b, st.blk id = some b ∧ b.f = true
  | [], _, id, len, hm => by simp at hm
  | c :: l, h, id, len, hm => by
    have hl : ownNew st l = true ∧ ∀ j m, c = .own j m → ∃ b, st.blk j = some b ∧ b.f = true := by
      cases c with
      | own j m =>
        simp only [ownNew, Bool.and_eq_true] at h
        refine ⟨h.2, fun j' m' e => ?_⟩
        cases e
        cases hb : st.blk j with
        | none => rw [hb] at h; simp at h
        | some b => rw [hb] at h; exact ⟨b, rfl, h.1⟩
      | _ => exact ⟨h, fun j m e => by cases e⟩
    rcases List.mem_cons.1 hm with hm | hm
    · exact hl.2 id len hm.symm
    · exact ownNew_f hl.1 id len hm

theorem freeze_other {id : Nat} : ∀ (l : List AC) (st : St), noId id l = true → look (st.freeze l).bl id = look st.bl id
  | [], st, _ => rfl
  | c :: l, st, h => by
    show look ((st.freeze1 c).freeze l).bl id = _
    have hl : noId id l = true ∧ ∀ j m, c = .own j m → j ≠ id := by
      cases c with
      | own j m =>
        simp only [noId, Bool.and_eq_true] at h
        refine ⟨h.2, fun j' m' e => ?_⟩
        cases e
        exact beq_nat_false h.1
      | _ => exact ⟨h, fun j m e => by cases e⟩
    rw [freeze_other l _ hl.1]
    cases c with
    | own j m =>
      cases hb : st.blk j with
      | none => rw [freeze1_none hb]
      | some b =>
        rw [freeze1_some hb]
        have := hl.2 j m rfl
        simp [look_cons, this]
    | _ => rfl

/-- What cells hold, once their own rows are frozen: data that nobody writes to. -/
theorem frozen_rd {G' : Gh} {l : List AC} (h' : Inv w0 G' (st.freeze l) a w) (ho : ownNew st l = true) {nf : Bool} (hn : nf = true → newAll l = true) {bx : List (Nat × List AC)} :
    ∀ t c v xs, c ∈ l → RelC G' w (st.freeze l).bx (st.freeze l).bl c v → slData (st.freeze l) t c = some xs → ∀ e, Rd w (RO G' nf) (.sl e t) xs [v] := by
  intro t c v xs hm hr hd e
  have weak : ∀ f, (nf = true → f = true) → ∀ g, RO G' f g → RO G' nf g := fun f hf g hg => hg.weak hf
  refine slData_rd h' hr hd (fun id len b hc hl => ?_) (fun f e u ys hc => ?_) e
  · subst hc
    obtain ⟨b0, hb0, hf⟩ := ownNew_f ho id len hm
    have := freeze_mem l st id len b0 hm (blk_some hb0)
    rw [hl] at this
    cases this
    exact ⟨weak b0.f fun _ => hf, fun hw => by cases hw⟩
  · subst hc
    exact weak f fun hnf => newAll_ro (hn hnf) f e u ys hm

theorem sound_storeElem (h : Inv w0 G st a w) (t : TypeId) (x y : Operand) (ho : o.op = .store t x y) (hk : (st.evc y).kn = true) (hkn : allKn (st.evc y).cells = true) (hs : P.cellsOf t = (st.evc y).cells.length) (hi : (P.info? t).isSome = true)
    {id : Nat} {i : Int} {off : Nat} (hx : st.ac x = .eown id i off) {b : Blk} (hb : st.blk id = some b) (hw : b.w = true) (hon : ownNew st (st.evc y).cells = true) (hni : noId id (st.evc y).cells = true)
    {z : b.t.D} (hz : setD st b.t (b.xs.getD i.toNat b.t.dflt) (off, (st.evc y).cells) = some (z, (0, [])))
    (hr : ({ (st.freeze (st.evc y).cells) with bl := (id, some { b with xs := b.xs.set i.toNat z, f := b.f && newAll (st.evc y).cells }) :: (st.freeze (st.evc y).cells).bl } : St).pk o.dst (.tup []) k = some r) (hK : Goes w0 k r K) : o.wp P a w K Q := by
  have hl0 := blk_some hb
  have hcell0 := (h.evc y).cells hk
  have hxr0 := h.ac x
  rw [hx] at hxr0
  obtain ⟨cs, hcs⟩ : ∃ cs, (st.evc y).cells = cs := ⟨_, rfl⟩
  rw [hcs] at hr hz hon hni hs hkn hcell0
  obtain ⟨G', h', hxt, hst, hsd⟩ := Inv.freeze cs h
  have hcell : All2 (RelC G' w (st.freeze cs).bx (st.freeze cs).bl) cs (a.eval y).cells.toList := hcell0.imp fun _ _ => RelC.mono hxt hst
  have hxr := RelC.mono hxt hst (c := .eown id i off) hxr0
  have hl : look (st.freeze cs).bl id = some (some b) := (freeze_other cs st hni).trans hl0
  obtain ⟨_, _, hi0, g, q, n, cap, hv, hin, hp⟩ := hxr
  have hp := hp b hl
  have hbo := h'.bl id b hl
  obtain ⟨rows, hown, hgo, hels⟩ := hbo.wr hw
  obtain ⟨hlen, hform⟩ := hown
  rcases hform with ⟨he, _⟩ | ⟨g', cap', cur, he, hbase, hh, hnc, hcm, hsz, htk⟩
  · rw [hv] at he; cases he
  · rw [hv] at he
    injection he with e1 e2 e3
    injection e1 with e1
    injection e1 with e4 e5 _
    subst e4 e5 e2 e3
    have hgown := hgo g (by rw [hv]; rfl)
    have hj : i.toNat < b.xs.length := by omega
    obtain ⟨c, hrd, hcc⟩ := hels i.toNat _ (getD_some hj b.t.dflt)
    have hf' : ∀ f : Bool, ((b.f && newAll cs) = true → f = true) → ∀ g, RO G' f g → RO G' (b.f && newAll cs) g := fun f hf g hg => hg.weak hf
    have hbf : ∀ g, RO G' b.f g → RO G' (b.f && newAll cs) g := hf' b.f fun h => by simp at h; exact h.1
    have hz' : setD (st.freeze cs) b.t (b.xs.getD i.toNat b.t.dflt) (off, cs) = some (z, (0, [])) := by rw [setD_same hsd]; exact hz
    obtain ⟨c', vs', hrz, hv0, hwr, _⟩ := setD_rd (ok := RO G' (b.f && newAll cs)) (frozen_rd (bx := st.bx) h' hon fun h => by simp at h; exact h.2) (rd_weak hbf hrd) hcell hz'
    have hvs : vs' = [] := by
      cases vs' with
      | nil => rfl
      | cons _ _ => exact hv0.elim
    subst hvs
    obtain ⟨hfit, hget⟩ := wrC_get c off _ c' hwr
    have hclen := hrd.len
    have hone := all_one hcell (allKn_ne hkn)
    have hlen2 := hcell.len
    have hcl : cur.size = cap * b.t.n := hsz
    have hrow : (i.toNat + 1) * b.t.n ≤ b.xs.length * b.t.n := Nat.mul_le_mul_right _ (by omega)
    have hrow2 : b.xs.length * b.t.n ≤ cap * b.t.n := Nat.mul_le_mul_right _ hnc
    rw [Nat.add_mul, Nat.one_mul] at hrow
    obtain ⟨vs, hvs⟩ : ∃ vs, (a.eval y).cells.toList = vs := ⟨_, rfl⟩
    rw [hvs] at hcell hlen2 hone hwr hget hfit
    have hle : i.toNat * b.t.n + off + vs.length ≤ cur.toList.length := by simp; omega
    have hrun := run_storeVar (P := P) (t := t) (o := 0 + (i.toNat * b.t.n + off)) (v := a.eval y) (by rw [hs, hvs]; exact hlen2) hi hh (by rw [hvs]; simp at hle ⊢; omega) (by rw [hvs]; exact hone)
    rw [hvs, Nat.zero_add] at hrun
    have hget' : ∀ q : Nat, (cur.toList.take (i.toNat * b.t.n + off) ++ vs ++ cur.toList.drop (i.toNat * b.t.n + off + vs.length))[q]? = if i.toNat * b.t.n + off ≤ q ∧ q < i.toNat * b.t.n + off + vs.length then vs[q - (i.toNat * b.t.n + off)]? else cur.toList[q]? := fun q => splice_get hle q
    obtain ⟨cur', hcur⟩ : ∃ cur', cur.toList.take (i.toNat * b.t.n + off) ++ vs ++ cur.toList.drop (i.toNat * b.t.n + off + vs.length) = cur' := ⟨_, rfl⟩
    rw [hcur] at hrun hget'
    have hcurlen : cur'.length = cur.size := by
      rw [← hcur]
      simp
      omega
    have hext := setRow_ext (w := w) (cs := cur'.toArray) hgown (by simp)
    have hblk : BlkOk G' (w.setRow g cur'.toArray) id { b with xs := b.xs.set i.toNat z, f := b.f && newAll cs } := by
      refine ⟨fun _ => ⟨cur'.take (b.xs.length * b.t.n), ⟨?_, .inr ⟨g, cap, cur'.toArray, ?_, hbase, setRow_heap w g cur _ _ _ hh, by simpa using hnc, hcm, by simp [hcurlen, hsz], by simp⟩⟩, hgo, ?_⟩, fun hw' => ?_, hbo.pos⟩
      · simp [hcurlen]
        omega
      · simp [hv]
      · intro jj xx hjj
        dsimp only at hjj
        have hjl : jj < b.xs.length := by
          rcases Nat.lt_or_ge jj b.xs.length with h | h
          · exact h
          · simp [List.getElem?_eq_none (show (b.xs.set i.toNat z).length ≤ jj by simpa using h)] at hjj
        have hrj : (jj + 1) * b.t.n ≤ b.xs.length * b.t.n := Nat.mul_le_mul_right _ (by omega)
        rw [Nat.add_mul, Nat.one_mul] at hrj
        by_cases hji : jj = i.toNat
        · subst hji
          have : xx = z := by
            rw [List.getElem?_set] at hjj
            simp [hjl] at hjj
            exact hjj.symm
          rw [this]
          refine ⟨c', hext.rd hrz, fun ii u hu => ?_⟩
          have hil : ii < b.t.n := by
            have := hrz.len
            have h2 := (List.getElem?_eq_some_iff.1 hu).1
            omega
          rw [hget] at hu
          show (cur'.take (b.xs.length * b.t.n))[i.toNat * b.t.n + ii]? = some u
          rw [List.getElem?_take, if_pos (by omega), hget']
          by_cases hin' : off ≤ ii ∧ ii < off + vs.length
          · rw [if_pos hin'] at hu
            rw [if_pos (by omega), show i.toNat * b.t.n + ii - (i.toNat * b.t.n + off) = ii - off by omega]
            exact hu
          · rw [if_neg hin'] at hu
            rw [if_neg (by omega)]
            have := hcc ii u hu
            rw [← htk, List.getElem?_take, if_pos (by omega)] at this
            exact this
        · have hxx : b.xs[jj]? = some xx := by
            rw [List.getElem?_set] at hjj
            simpa [fun e => hji (Eq.symm e), show ¬ i.toNat = jj from fun e => hji e.symm] using hjj
          obtain ⟨c2, hr2, hc2⟩ := hels jj xx hxx
          refine ⟨c2, rd_weak hbf (hext.rd hr2), fun ii u hu => ?_⟩
          have hil : ii < b.t.n := by
            have := hr2.len
            have h2 := (List.getElem?_eq_some_iff.1 hu).1
            omega
          show (cur'.take (b.xs.length * b.t.n))[jj * b.t.n + ii]? = some u
          have hnot : ¬ (i.toNat * b.t.n + off ≤ jj * b.t.n + ii ∧ jj * b.t.n + ii < i.toNat * b.t.n + off + vs.length) := by
            rcases Nat.lt_or_gt_of_ne hji with hlt | hgt
            · have : (jj + 1) * b.t.n ≤ i.toNat * b.t.n := Nat.mul_le_mul_right _ (by omega)
              rw [Nat.add_mul, Nat.one_mul] at this
              omega
            · have : (i.toNat + 1) * b.t.n ≤ jj * b.t.n := Nat.mul_le_mul_right _ (by omega)
              rw [Nat.add_mul, Nat.one_mul] at this
              omega
          rw [List.getElem?_take, if_pos (by omega), hget', if_neg hnot]
          have := hc2 ii u hu
          rw [← htk, List.getElem?_take, if_pos (by omega)] at this
          exact this
      · rw [show b.w = false from hw'] at hw
        cases hw
    have hinv := h'.setElem id b hl hw g (by rw [hv]; rfl) cur'.toArray { b with xs := b.xs.set i.toNat z, f := b.f && newAll cs } rfl hblk
    refine wp_skp (w' := w.setRow g cur'.toArray) ?_ (pk_goes hinv (v := .tup []) (u := undef) ⟨#[], rfl, trivial⟩ hr hK)
    unfold execOp
    rw [ho]
    dsimp only
    rw [hp]
    simp only [Instr.storeAt, Instr.sureAddr, Sem.run_bind, Sem.run_pure, Result.andThen_ok, Nat.zero_add, hrun]
end
end Go.Am
