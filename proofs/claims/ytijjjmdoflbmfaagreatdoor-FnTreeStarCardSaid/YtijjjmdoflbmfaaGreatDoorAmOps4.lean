/- Each operation of the abstract machine is Go's own, part four: what writes, what makes rows. No condition. -/
import Derived.Test.YtijjjmdoflbmfaaGreatDoorAmOps3
set_option linter.unusedVariables false
set_option linter.unusedSimpArgs false
namespace Go.Am
open Go.RowKit
section
variable {P : Program} {w0 : Root} {w : World} {G : Gh} {st : St} {a : Act} {α : Type} {k : St → Option α} {r : α} {K : Act → World → Prop} {Q : Exit → Act → World → Prop} {o : Oper}

/-! ### store into a box -/
theorem setManyV_app {β : Type} : ∀ (us l1 l2 l3 : List β), l2.length = us.length → setManyV (l1 ++ l2 ++ l3) l1.length us = l1 ++ us ++ l3
  | [], l1, l2, l3, h => by
    have : l2 = [] := List.eq_nil_of_length_eq_zero (by simpa using h)
    subst this
    rfl
  | u :: us, l1, [], l3, h => by simp at h
  | u :: us, l1, x :: l2, l3, h => by
    have hs : (l1 ++ x :: l2 ++ l3).set l1.length u = (l1 ++ [u]) ++ l2 ++ l3 := by simp
    rw [setManyV, hs]
    have := setManyV_app us (l1 ++ [u]) l2 l3 (by simpa using h)
    simpa using this
theorem setManyV_eq {β : Type} (us l : List β) (i : Nat) (h : i + us.length ≤ l.length) : setManyV l i us = l.take i ++ us ++ l.drop (i + us.length) := by
  have h1 : l = l.take i ++ (l.drop i).take us.length ++ l.drop (i + us.length) := by
    rw [List.append_assoc, ← List.drop_drop, List.take_append_drop, List.take_append_drop]
  have h2 := setManyV_app us (l.take i) ((l.drop i).take us.length) (l.drop (i + us.length)) (by simp; omega)
  rw [← h1] at h2
  have h3 : (l.take i).length = i := by simp; omega
  rwa [h3] at h2

theorem run_storeVar {t : TypeId} {g o : Nat} {v : Value} (hs : P.cellsOf t = v.cells.toList.length) (hp : (P.info? t).isSome = true) {cur : Array Value} {e : TypeId} (hh : w.heap[g]? = some (.cells cur e (0, 0))) (hl : o + v.cells.toList.length ≤ cur.size)
    (h1 : ∀ u ∈ v.cells.toList, u.oneCell' = true) :
    (storeVar t ⟨g, o, none⟩ v).run P w = .ok () (w.setRow g (cur.toList.take o ++ v.cells.toList ++ cur.toList.drop (o + v.cells.toList.length)).toArray) := by
  have := run_storeCells_at P g o e v.cells.toList 0 cur w hh (by simpa using hl) h1
  obtain ⟨i, hi⟩ := Option.isSome_iff_exists.1 hp
  have hs' : v.cells.size = i.size := by
    rw [Program.cellsOf, hi] at hs
    simp at hs
    omega
  simp only [Nat.add_zero] at this
  simp [storeVar, sizeOf, typeInfo, hi, hs', this]

theorem all_one {bx : List (Nat × List AC)} {bl : List (Nat × Option Blk)} : ∀ {l : List AC} {vs : List Value}, All2 (RelC G w bx bl) l vs → (∀ c ∈ l, c ≠ .none) → ∀ u ∈ vs, u.oneCell' = true
  | [], [], _, _, u, hu => by simp at hu
  | c :: l, v :: vs, h, hn, u, hu => by
    rcases List.mem_cons.1 hu with rfl | hu
    · exact RelC.one h.1 (hn c (by simp))
    · exact all_one h.2 (fun c hc => hn c (by simp [hc])) u hu
  | [], _ :: _, h, _, _, _ => h.elim
  | _ :: _, [], h, _, _, _ => h.elim

theorem allKn_ne : ∀ {l : List AC}, allKn l = true → ∀ c ∈ l, c ≠ .none
  | [], _, c, hc => by simp at hc
  | x :: l, h, c, hc => by
    have hx : x ≠ .none := by rintro rfl; simp [allKn] at h
    have hl : allKn l = true := by cases x <;> first | exact h | exact absurd rfl hx
    rcases List.mem_cons.1 hc with rfl | hc
    · exact hx
    · exact allKn_ne hl c hc

theorem sound_storeBox (h : Inv w0 G st a w) (t : TypeId) (x y : Operand) (ho : o.op = .store t x y) (hk : (st.evc y).kn = true) (hkn : allKn (st.evc y).cells = true) (hs : P.cellsOf t = (st.evc y).cells.length) (hi : (P.info? t).isSome = true)
    {b off : Nat} (hx : st.ac x = .ptr b off) {l : List AC} (hl : look st.bx b = some l) (hle : off + (st.evc y).cells.length ≤ l.length)
    (hr : ({ st with bx := (b, setMany l off (st.evc y).cells) :: st.bx } : St).pk o.dst (.tup []) k = some r) (hK : Goes w0 k r K) : o.wp P a w K Q := by
  have hxr := h.ac x
  rw [hx] at hxr
  obtain ⟨_, hp⟩ := hxr
  obtain ⟨cs, e, hh, hown, hrel⟩ := h.bx b l hl
  have hcell := (h.evc y).cells hk
  have hlen := hcell.len
  have hlen2 := hrel.len
  have hone := all_one hcell (allKn_ne hkn)
  have hle2 : off + (a.eval y).cells.toList.length ≤ cs.toList.length := by omega
  have hrun := run_storeVar (P := P) (t := t) (o := off) (v := a.eval y) (by omega) hi hh (by simpa using hle2) hone
  have hnew := All2.setMany off hrel hcell
  rw [setManyV_eq _ _ _ hle2] at hnew
  have h' := h.setBox b l hl (cs.toList.take off ++ (a.eval y).cells.toList ++ cs.toList.drop (off + (a.eval y).cells.toList.length)).toArray _ (by simpa using hnew)
  refine wp_skp (w' := _) ?_ (pk_goes h' (v := .tup []) (u := undef) ⟨#[], rfl, trivial⟩ hr hK)
  unfold execOp
  rw [ho]
  dsimp only
  rw [hp]
  simp only [Instr.storeAt, Instr.sureAddr, Sem.run_bind, Sem.run_pure, Result.andThen_ok, hrun]

/-! ### Rows that are frozen -/
theorem freeze1_none {id : Nat} {len : Option Int} (h : st.blk id = none) : st.freeze1 (.own id len) = st := by
  show (match st.blk id with | some b => _ | none => st) = st
  rw [h]
theorem freeze1_some {id : Nat} {len : Option Int} {b : Blk} (h : st.blk id = some b) : st.freeze1 (.own id len) = { st with bl := (id, some { b with w := false }) :: st.bl } := by
  show (match st.blk id with | some b => { st with bl := (id, some { b with w := false }) :: st.bl } | none => st) = _
  rw [h]

theorem Inv.freeze1 (h : Inv w0 G st a w) (c : AC) : ∃ G', Inv w0 G' (st.freeze1 c) a w ∧ Ext G w G' w ∧ StLe G st.bx st.bl G' (st.freeze1 c).bx (st.freeze1 c).bl := by
  have hrefl : Inv w0 G st a w ∧ Ext G w G w ∧ StLe G st.bx st.bl G st.bx st.bl := ⟨h, ⟨rfl, rfl, Nat.le_refl _, fun _ _ ho => ⟨ho, rfl⟩, fun _ _ ho => ⟨ho, rfl⟩⟩, StLe.refl _ _ _⟩
  cases c with
  | own id len =>
    cases hb : st.blk id with
    | none => rw [freeze1_none hb]; exact ⟨G, hrefl⟩
    | some b => rw [freeze1_some hb]; exact ⟨_, h.drop id b (blk_some hb)⟩
  | _ => exact ⟨G, hrefl⟩

theorem Ext.trans {G1 G2 G3 : Gh} {w1 w2 w3 : World} (h : Ext G1 w1 G2 w2) (h' : Ext G2 w2 G3 w3) : Ext G1 w1 G3 w3 :=
  ⟨h'.nw.trans h.nw, h'.ok.trans h.ok, Nat.le_trans h.size h'.size, fun b hb ho => by
    obtain ⟨h1, h2⟩ := h.ro b hb ho
    obtain ⟨h3, h4⟩ := h'.ro b (Nat.lt_of_lt_of_le hb h.size) h1
    exact ⟨h3, h4.trans h2⟩, fun b hb ho => by
    obtain ⟨h1, h2⟩ := h.hid b hb ho
    obtain ⟨h3, h4⟩ := h'.hid b (Nat.lt_of_lt_of_le hb h.size) h1
    exact ⟨h3, h4.trans h2⟩⟩
theorem StLe.trans {G1 G2 G3 : Gh} {bx1 bx2 bx3 : List (Nat × List AC)} {bl1 bl2 bl3 : List (Nat × Option Blk)} (h : StLe G1 bx1 bl1 G2 bx2 bl2) (h' : StLe G2 bx2 bl2 G3 bx3 bl3) : StLe G1 bx1 bl1 G3 bx3 bl3 :=
  ⟨fun d hd => ⟨(h'.bx d (h.bx d hd).1).1, (h'.bx d (h.bx d hd).1).2.trans (h.bx d hd).2⟩, fun id hd => by
    obtain ⟨h1, h2, h3⟩ := h.bl id hd
    obtain ⟨h4, h5, h6⟩ := h'.bl id h1
    refine ⟨h4, h5.trans h2, fun b' hb' => ?_⟩
    obtain ⟨b, hb, ht⟩ := h6 b' hb'
    obtain ⟨b0, hb0, ht0⟩ := h3 b hb
    exact ⟨b0, hb0, ht0.trans ht⟩⟩

/-- A state in which nothing but the leave to write has turned. -/
structure SameData (st st' : St) : Prop where
  nt : st'.nt = st.nt
  tm : st'.tm = st.tm
  bx : st'.bx = st.bx
  bl : ∀ id, look st'.bl id = look st.bl id ∨ ∃ b, look st.bl id = some (some b) ∧ look st'.bl id = some (some { b with w := false })

theorem SameData.refl (st : St) : SameData st st := ⟨rfl, rfl, rfl, fun _ => .inl rfl⟩
theorem SameData.trans {s1 s2 s3 : St} (h : SameData s1 s2) (h' : SameData s2 s3) : SameData s1 s3 := by
  refine ⟨h'.nt.trans h.nt, h'.tm.trans h.tm, h'.bx.trans h.bx, fun id => ?_⟩
  rcases h.bl id with h1 | ⟨b, h1, h2⟩ <;> rcases h'.bl id with h3 | ⟨b', h3, h4⟩
  · exact .inl (h3.trans h1)
  · exact .inr ⟨b', h1 ▸ h3, h4⟩
  · exact .inr ⟨b, h1, h3.trans h2⟩
  · rw [h2] at h3
    cases h3
    exact .inr ⟨b, h1, h4⟩
theorem sameData_freeze1 (st : St) (c : AC) : SameData st (st.freeze1 c) := by
  cases c with
  | own id len =>
    cases hb : st.blk id with
    | none => rw [freeze1_none hb]; exact .refl st
    | some b =>
      rw [freeze1_some hb]
      refine ⟨rfl, rfl, rfl, fun i => ?_⟩
      show look ((id, some { b with w := false }) :: st.bl) i = _ ∨ _
      by_cases hi : id = i
      · subst hi
        exact .inr ⟨b, blk_some hb, by simp [look_cons]⟩
      · exact .inl (by simp [look_cons, hi])
  | _ => exact .refl st

theorem Inv.freeze : ∀ (l : List AC) {G : Gh} {st : St} (h : Inv w0 G st a w), ∃ G', Inv w0 G' (st.freeze l) a w ∧ Ext G w G' w ∧ StLe G st.bx st.bl G' (st.freeze l).bx (st.freeze l).bl ∧ SameData st (st.freeze l)
  | [], G, st, h => ⟨G, h, ⟨rfl, rfl, Nat.le_refl _, fun _ _ ho => ⟨ho, rfl⟩, fun _ _ ho => ⟨ho, rfl⟩⟩, StLe.refl _ _ _, .refl st⟩
  | c :: l, G, st, h => by
    obtain ⟨G1, h1, h2, h3⟩ := h.freeze1 c
    obtain ⟨G2, h4, h5, h6, h7⟩ := Inv.freeze l h1
    exact ⟨G2, h4, h2.trans h5, h3.trans h6, (sameData_freeze1 st c).trans h7⟩

/-- Its own rows are frozen. -/
theorem freeze_mem : ∀ (l : List AC) (st : St) (id : Nat) (len : Option Int) (b : Blk), AC.own id len ∈ l → look st.bl id = some (some b) → look (st.freeze l).bl id = some (some { b with w := false })
  | c :: l, st, id, len, b, hm, hb => by
    show look ((st.freeze1 c).freeze l).bl id = _
    -- what stands there once it is frozen
    have stay : ∀ (l : List AC) (st : St) (b : Blk), look st.bl id = some (some { b with w := false }) → look (st.freeze l).bl id = some (some { b with w := false }) := by
      intro l
      induction l with
      | nil => exact fun _ _ h => h
      | cons c l ih =>
        intro st b h
        show look ((st.freeze1 c).freeze l).bl id = _
        rcases (sameData_freeze1 st c).bl id with h1 | ⟨b', h1, h2⟩
        · exact ih _ b (h1.trans h)
        · rw [h] at h1
          cases h1
          exact ih _ b h2
    rcases List.mem_cons.1 hm with rfl | hm
    · refine stay l _ b ?_
      have : st.blk id = some b := by simp [St.blk, hb]
      rw [freeze1_some this]
      simp [look_cons]
    · rcases (sameData_freeze1 st c).bl id with h1 | ⟨b', h1, h2⟩
      · exact freeze_mem l _ id len b hm (h1.trans hb)
      · rw [hb] at h1
        cases h1
        have := freeze_mem l _ id len _ hm h2
        exact this

/-- The same data. -/
theorem blk_same {st st' : St} (h : SameData st st') (id : Nat) : st'.blk id = st.blk id ∨ ∃ b, st.blk id = some b ∧ st'.blk id = some { b with w := false } := by
  unfold St.blk
  rcases h.bl id with h1 | ⟨b, h1, h2⟩
  · rw [h1]; exact .inl rfl
  · rw [h1, h2]; exact .inr ⟨b, rfl, rfl⟩
theorem slData_same {st st' : St} (h : SameData st st') (t : Ty) (c : AC) : slData st' t c = slData st t c := by
  cases c with
  | own id len =>
    simp only [slData]
    rcases blk_same h id with h1 | ⟨b, h1, h2⟩
    · rw [h1]
    · rw [h1, h2]
  | _ => rfl

theorem im_same {st st' : St} (h : SameData st st') : ∀ (t : Ty) (l : List AC), im st' t l = im st t l
  | .int k, l => by
    cases l with
    | nil => rfl
    | cons c l => cases c <;> rfl
  | .bool, l => by
    cases l with
    | nil => rfl
    | cons c l => cases c <;> rfl
  | .str, l => by
    cases l with
    | nil => rfl
    | cons c l => cases c <;> rfl
  | .unit, l => rfl
  | .pair t u, l => by
    simp only [im]
    rw [im_same h t l]
    cases im st t l with
    | none => rfl
    | some x =>
      obtain ⟨x, r⟩ := x
      dsimp only
      rw [im_same h u r]
  | .sl e t, [] => rfl
  | .sl e t, c :: r => by
    simp only [im]
    rw [slData_same h]

/-! ### Data read off cells -/
theorem rd_weak {ok ok' : Nat → Prop} (h : ∀ b, ok b → ok' b) {t : Ty} {x : t.D} {cs : List Value} (hr : Rd w ok t x cs) : Rd w ok' t x cs := hr.mono (Nat.le_refl _) fun b _ hb => ⟨h b hb, rfl⟩

theorem castD_rd {ok : Nat → Prop} {e : TypeId} {t u : Ty} (h : t = u) {xs : List t.D} {v : Value} (hr : Rd w ok (.sl e t) xs [v]) : ∀ e', Rd w ok (.sl e' u) (castD h xs) [v] := by
  subst h
  exact fun _ => hr

theorem rd_take {ok : Nat → Prop} {e : TypeId} {t : Ty} {xs : List t.D} {A : Option Addr} {n cap : Nat} (h : Rd w ok (.sl e t) xs [.slice A n cap]) {m : Nat} (hm : m ≤ n) : Rd w ok (.sl e t) (xs.take m) [.slice A m cap] := by
  obtain ⟨A', cap', he, hc, h63, hr⟩ := h
  have he := (List.cons.inj he).1
  injection he with e1 e2 e3
  subst e1 e2 e3
  have hl : (xs.take m).length = m := by simp; omega
  refine ⟨A, cap, by rw [hl], by omega, by omega, fun h0 => ?_⟩
  obtain ⟨b, o, hA, h1, h2, h3⟩ := hr (by omega)
  refine ⟨b, o, hA, h1, h2, fun j x hj => h3 j x ?_⟩
  rw [List.getElem?_take] at hj
  split at hj
  · exact hj
  · cases hj

/-- A block's data, read by whoever may read it. -/
theorem blk_rd {id : Nat} {b : Blk} (hb : BlkOk G w id b) {ok : Nat → Prop} (hro : ∀ g, RO G b.f g → ok g) (hw : b.w = true → ∀ g, (G.hv id).ownBlock = some g → ok g) : Rd w ok (.sl b.e b.t) b.xs [G.hv id] := by
  cases hbw : b.w with
  | false => exact rd_weak hro (hb.rd hbw)
  | true =>
    obtain ⟨cs, h1, h2, h3⟩ := hb.wr hbw
    refine rd_of_own h1 (fun j x hj => ?_) (hw hbw) hb.pos
    obtain ⟨c, hc, hcc⟩ := h3 j x hj
    exact ⟨c, rd_weak hro hc, hcc⟩

theorem slData_rd (h : Inv w0 G st a w) {t : Ty} {c : AC} {v : Value} {xs : List t.D} (hc : RelC G w st.bx st.bl c v) (hd : slData st t c = some xs) {ok : Nat → Prop}
    (hown : ∀ id len b, c = .own id len → look st.bl id = some (some b) → (∀ g, RO G b.f g → ok g) ∧ (b.w = true → ∀ g, (G.hv id).ownBlock = some g → ok g))
    (hro : ∀ f e u ys, c = .ro f e u ys → ∀ g, RO G f g → ok g) : ∀ e, Rd w ok (.sl e t) xs [v] := by
  intro e
  cases c with
  | nil =>
    simp only [slData] at hd
    cases hd
    rw [show v = _ from hc]
    exact ⟨none, 0, rfl, Nat.le_refl _, by simp, fun h0 => absurd h0 (by simp)⟩
  | ro f e' u ys =>
    simp only [slData] at hd
    split at hd
    · rename_i hu
      cases hd
      exact castD_rd _ (rd_weak (hro f e' u ys rfl) hc) e
    · cases hd
  | own id len =>
    simp only [slData] at hd
    cases hb : st.blk id with
    | none => rw [hb] at hd; cases hd
    | some b =>
      rw [hb] at hd
      dsimp only at hd
      split at hd
      · rename_i hu
        cases hd
        have hl := blk_some hb
        have hbo := h.bl id b hl
        obtain ⟨h1, h2⟩ := hown id len b rfl hl
        have hrd := blk_rd hbo h1 h2
        cases len with
        | none =>
          rw [hc.2.2]
          exact castD_rd (Ty.beq_eq hu) hrd e
        | some l =>
          obtain ⟨_, h0, A, n, cap, hv, hln, rfl⟩ := hc
          rw [hv] at hrd
          have := castD_rd (Ty.beq_eq hu) hrd e
          exact rd_take this (by omega)
      · cases hd
  | _ => simp [slData] at hd

theorem im_rd {ok : Nat → Prop} {bx : List (Nat × List AC)} {bl : List (Nat × Option Blk)} : ∀ {t : Ty} {l : List AC} {vs : List Value} {x : t.D} {l' : List AC},
    (∀ t c v xs, c ∈ l → RelC G w bx bl c v → slData st t c = some xs → ∀ e, Rd w ok (.sl e t) xs [v]) →
    All2 (RelC G w bx bl) l vs → im st t l = some (x, l') → ∃ vs1 vs2, vs = vs1 ++ vs2 ∧ Rd w ok t x vs1 ∧ All2 (RelC G w bx bl) l' vs2 ∧ ∃ l1, l = l1 ++ l'
  | .int k, .int j n :: l, v :: vs, x, l', hc, hr, hi => by
    simp only [im] at hi
    split at hi
    · rename_i hk
      cases hi
      cases kbeq_eq hk
      exact ⟨[v], vs, rfl, by rw [show v = _ from hr.1]; rfl, hr.2, [_], rfl⟩
    · cases hi
  | .bool, .bool b :: l, v :: vs, x, l', hc, hr, hi => by
    simp only [im] at hi
    cases hi
    exact ⟨[v], vs, rfl, by rw [show v = _ from hr.1]; rfl, hr.2, [_], rfl⟩
  | .str, .str b :: l, v :: vs, x, l', hc, hr, hi => by
    simp only [im] at hi
    cases hi
    exact ⟨[v], vs, rfl, by rw [show v = _ from hr.1]; rfl, hr.2, [_], rfl⟩
  | .unit, l, vs, x, l', hc, hr, hi => by
    simp only [im] at hi
    cases hi
    exact ⟨[], vs, rfl, rfl, hr, [], rfl⟩
  | .pair t u, l, vs, x, l', hc, hr, hi => by
    simp only [im] at hi
    split at hi
    · rename_i y r1 h1
      split at hi
      · rename_i z r2 h2
        cases hi
        obtain ⟨vs1, vs2, rfl, hr1, hr2, l1, hl1⟩ := im_rd hc hr h1
        obtain ⟨vs3, vs4, rfl, hr3, hr4, l2, hl2⟩ := im_rd (fun t c v xs hm => hc t c v xs (by rw [hl1]; simp [hm])) hr2 h2
        exact ⟨vs1 ++ vs3, vs4, by simp, ⟨vs1, vs3, rfl, hr1, hr3⟩, hr4, l1 ++ l2, by rw [hl1, hl2]; simp⟩
      · cases hi
    · cases hi
  | .sl e t, c :: l, v :: vs, x, l', hc, hr, hi => by
    simp only [im] at hi
    split at hi
    · rename_i xs hd
      cases hi
      exact ⟨[v], vs, rfl, hc t c v _ (by simp) hr.1 hd e, hr.2, [c], rfl⟩
    · cases hi
  | _, [], _ :: _, _, _, _, hr, _ => hr.elim
  | _, _ :: _, [], _, _, _, hr, _ => hr.elim
  | .int _, [], [], _, _, _, _, hi => by simp [im] at hi
  | .bool, [], [], _, _, _, _, hi => by simp [im] at hi
  | .str, [], [], _, _, _, _, hi => by simp [im] at hi
  | .sl _ _, [], [], _, _, _, _, hi => by simp [im] at hi
  | .int _, .none :: _, _ :: _, _, _, _, _, hi => by simp [im] at hi
end
end Go.Am
