/- The machine's code is Go's own. No condition. -/
import Derived.Test.YtkkgagllehdhhaaGreatDoorAmFrz
import Derived.Deep.LoopGhost
import Derived.Tactics
set_option linter.unusedVariables false
set_option linter.unusedSimpArgs false
namespace Go.Am
open Go.RowKit
theorem kbeq_refl (k : IntKind) : kbeq k k = true := by cases k <;> rfl
theorem Ty.beq_refl : ∀ (t : Ty), t.beq t = true
  | .int k => kbeq_refl k
  | .bool | .str | .unit => rfl
  | .pair a b => by
    show (a.beq a && b.beq b) = true
    rw [Ty.beq_refl a, Ty.beq_refl b]; rfl
  | .sl e t => by
    show (Nat.beq e e && t.beq t) = true
    rw [Ty.beq_refl t, Bool.and_true]
    simp

section
variable {P : Program} {w0 : Root} {w : World} {G : Gh} {st : St} {a : Act}

/-! ### A loop's head -/
theorem Inv.reput (h : Inv w0 G st a w) (t : Tmp) {v : AV} (hv : RelAV G w st.bx st.bl v (a.tmps.getD t undef)) : Inv w0 G (st.put t v) a w := by
  refine { h with tm := fun s x hs => ?_ }
  simp only [St.put, look_cons] at hs
  by_cases ht : t = s
  · subst ht
    simp only [if_true] at hs
    cases hs
    exact hv
  · simp only [ht, if_false] at hs
    exact h.tm s x hs

/-- A row of none: its own. -/
theorem Inv.nilRow (h : Inv w0 G st a w) (id : Nat) (hid : look st.bl id = none) (e : TypeId) (u : Ty) (hu : 0 < u.n) :
    ∃ G', Inv w0 G' { st with bl := (id, some ⟨e, u, [], true, true⟩) :: st.bl } a w ∧ Ext G w G' w ∧ StLe G st.bx st.bl G' st.bx ((id, some ⟨e, u, [], true, true⟩) :: st.bl) ∧ G'.hv id = .slice none 0 0 := by
  have hg : w.grownBy w none := ⟨rfl, rfl, rfl, Nat.le_refl _, fun _ _ _ => rfl⟩
  have hhv : (G.grow none [(id, some ⟨e, u, [], true, true⟩)] (fun _ => .slice none 0 0) (fun _ => none)).hv id = .slice none 0 0 := by
    simp [Gh.grow, look_cons]
  obtain ⟨h1, h2, h3⟩ := h.grow none hg (fun g hg => by cases hg) [(id, some ⟨e, u, [], true, true⟩)] (fun _ => .slice none 0 0) (fun _ => none)
    (fun i hi => by
      rw [look_cons] at hi
      by_cases hii : id = i
      · rw [← hii]; exact hid
      · simp [hii, look] at hi)
    (fun g i hn => by cases hn)
    (fun i b hb => by
      rw [look_cons] at hb
      by_cases hii : id = i
      · subst hii
        simp only [if_true] at hb
        cases hb
        refine ⟨fun _ => ⟨[], ?_, fun g hgo => ?_, fun j x hj => by simp at hj⟩, (fun hw => by simp at hw), hu⟩
        · rw [hhv]
          exact ⟨by simp, .inl ⟨rfl, rfl⟩⟩
        · rw [hhv] at hgo
          simp [Value.ownBlock] at hgo
      · simp [hii, look] at hb)
  exact ⟨_, h1, h2, h3, hhv⟩

theorem matNil_sound (h : Inv w0 G st a w) (t : Tmp) (e : TypeId) (u : Ty) : ∃ G', Inv w0 G' (matNil st t e u) a w := by
  unfold matNil
  split
  · rename_i hv hid hu
    obtain ⟨G1, h1, _, _, hhv⟩ := h.nilRow _ hid e u (by cases hn : u.n with | zero => rw [hn] at hu; cases hu | succ n => omega)
    have hval : a.tmps.getD t undef = .slice none 0 0 := by
      have := h.ev (.tmp t)
      rw [show st.ev (.tmp t) = st.get t from rfl, hv] at this
      exact this
    refine ⟨G1, h1.reput t ?_⟩
    rw [hval]
    exact ⟨by simp [look_cons], ⟨none, 0, 0, hhv⟩, hhv.symm⟩
  · exact ⟨G, h⟩

theorem matNilB_sound (h : Inv w0 G st a w) (b j : Nat) (e : TypeId) (u : Ty) : ∃ G', Inv w0 G' (matNilB st b j e u) a w := by
  unfold matNilB
  split
  · rename_i l hl hid hu
    split
    · rename_i hj
      obtain ⟨G1, h1, hx1, hs1, hhv⟩ := h.nilRow _ hid e u (by cases hn : u.n with | zero => rw [hn] at hu; cases hu | succ n => omega)
      have hs := StLe.bxCons G1 st.bx ((3000000 + 100 * b + j, some ⟨e, u, [], true, true⟩) :: st.bl) b (setNth l j (.own (3000000 + 100 * b + j) none))
      have hx : Ext G1 w G1 w := ⟨rfl, rfl, Nat.le_refl _, fun _ _ ho => ⟨ho, rfl⟩, fun _ _ ho => ⟨ho, rfl⟩⟩
      refine ⟨G1, h1.nw, h1.rok, h1.below, h1.defers, h1.size, h1.sp.mono hx hs, h1.hdMono hx, fun t v hv => (h1.tm t v hv).mono hx hs, ?_, fun id bk hb => h1.bl id bk hb, ?_⟩
      · intro d m hm
        simp only [look_cons] at hm
        by_cases hd : b = d
        · subst hd
          simp only [if_true] at hm
          cases hm
          obtain ⟨cs, e', h2, h3, h4⟩ := h1.bx b l hl
          refine ⟨cs, e', h2, h3, ?_⟩
          have h5 := h4.imp fun _ _ => RelC.mono hx hs
          obtain ⟨y, hy, hr⟩ := h4.nth hj
          have hset : cs.toList = cs.toList.set j y := by
            obtain ⟨hlt, he⟩ := List.getElem?_eq_some_iff.1 hy
            rw [← he]
            exact (List.set_getElem_self hlt).symm
          rw [hset]
          refine h5.set j ?_
          rw [show y = .slice none 0 0 from hr]
          exact ⟨by simp [look_cons], ⟨none, 0, 0, hhv⟩, hhv.symm⟩
        · simp only [hd, if_false] at hm
          obtain ⟨cs2, e2, h4, h5, h6⟩ := h1.bx d m hm
          exact ⟨cs2, e2, h4, h5, h6.imp fun _ _ => RelC.mono hx hs⟩
      · intro g k hk
        obtain ⟨h2, h3, h4⟩ := h1.own g k hk
        refine ⟨h2, h3, ?_⟩
        cases k with
        | hid => trivial
        | bx d => exact ⟨(hs.bx d h4.1).1, h4.2⟩
        | bl id => exact h4
    · exact ⟨G, h⟩
  · exact ⟨G, h⟩

theorem roify_sound (h : Inv w0 G st a w) (t : Tmp) : ∃ G', Inv w0 G' (roify st t) a w := by
  unfold roify
  split
  · rename_i id len hv
    split
    · rename_i b hb
      obtain ⟨G1, h1, hx1, hs1⟩ := h.freeze1 (.own id len)
      refine ⟨G1, h1.reput t ?_⟩
      have hrel := h.ev (.tmp t)
      rw [show st.ev (.tmp t) = st.get t from rfl, hv] at hrel
      have hrel1 : RelC G1 w (st.freeze1 (.own id len)).bx (st.freeze1 (.own id len)).bl (.own id len) (a.tmps.getD t undef) := RelC.mono hx1 hs1 (c := .own id len) hrel
      have hlk : look (st.freeze1 (.own id len)).bl id = some (some { b with w := false }) := by
        rw [freeze1_some hb]
        simp [look_cons]
      have hd : slData (st.freeze1 (.own id len)) b.t (.own id len) = some (cutLen b.xs len) := by
        simp only [slData, St.blk, hlk]
        rw [dif_pos (Ty.beq_refl b.t)]
        rfl
      refine slData_rd h1 hrel1 hd (fun id' len' b' hc hl => ?_) (fun f e u ys hc => by cases hc) b.e
      cases hc
      rw [hlk] at hl
      have := Option.some.inj (Option.some.inj hl)
      subst this
      exact ⟨fun g hg => hg, fun hw => by cases hw⟩
    · exact ⟨G, h⟩
  · exact ⟨G, h⟩

theorem weaken_sound (h : Inv w0 G st a w) (t : Tmp) : ∃ G', Inv w0 G' (weaken st t) a w := by
  unfold weaken
  split
  · rename_i f e u xs hv
    have hrel := h.ev (.tmp t)
    rw [show st.ev (.tmp t) = st.get t from rfl, hv] at hrel
    exact ⟨G, h.reput t (show Rd w (RO G false) (.sl e u) xs [_] from rd_weak (fun g hg => hg.weak fun h => by cases h) hrel)⟩
  · rename_i id len hv
    split
    · rename_i b hb
      have hl := blk_some hb
      have hs : StLe G st.bx st.bl G st.bx ((id, some { b with f := false }) :: st.bl) := StLe.blCons id _ rfl rfl fun x hx => by cases hx; exact ⟨b, hl, rfl⟩
      have hx : Ext G w G w := ⟨rfl, rfl, Nat.le_refl _, fun _ _ ho => ⟨ho, rfl⟩, fun _ _ ho => ⟨ho, rfl⟩⟩
      refine ⟨G, h.nw, h.rok, h.below, h.defers, h.size, h.sp.mono hx hs, h.hdMono hx, fun t v hv => (h.tm t v hv).mono hx hs, ?_, ?_, ?_⟩
      · intro d m hm
        obtain ⟨cs2, e2, h4, h5, h6⟩ := h.bx d m hm
        exact ⟨cs2, e2, h4, h5, h6.imp fun _ _ => RelC.mono hx hs⟩
      · intro i bk hbk
        simp only [look_cons] at hbk
        by_cases hi : id = i
        · subst hi
          simp only [if_true] at hbk
          cases hbk
          have hbo := h.bl id b hl
          refine ⟨fun hw => ?_, fun hw => ?_, hbo.pos⟩
          · obtain ⟨cs, h1, h2, h3⟩ := hbo.wr hw
            exact ⟨cs, h1, h2, els_weak (fun g hg => hg.weak fun h => by cases h) h3⟩
          · exact rd_weak (fun g hg => hg.weak fun h => by cases h) (hbo.rd hw)
        · simp only [hi, if_false] at hbk
          exact h.bl i bk hbk
      · intro g k hk
        obtain ⟨h4, h5, h6⟩ := h.own g k hk
        refine ⟨h4, h5, ?_⟩
        cases k with
        | hid => trivial
        | bx x => exact h6
        | bl i => exact ⟨(hs.bl i h6.1).1, h6.2⟩
    · exact ⟨G, h⟩
  · exact ⟨G, h⟩

theorem fold_sound {β : Type} {f : St → β → St} (hf : ∀ {G : Gh} {st : St} (h : Inv w0 G st a w) (x : β), ∃ G', Inv w0 G' (f st x) a w) : ∀ (l : List β) {G : Gh} {st : St}, Inv w0 G st a w → ∃ G', Inv w0 G' (l.foldl f st) a w
  | [], G, st, h => ⟨G, h⟩
  | x :: l, G, st, h => by
    obtain ⟨G1, h1⟩ := hf h x
    exact fold_sound hf l h1

theorem canon_sound (hn : Hint) (h : Inv w0 G st a w) : ∃ G', Inv w0 G' (canon hn st) a w := by
  unfold canon
  obtain ⟨G1, h1⟩ := fold_sound (f := fun st (x : Tmp × TypeId × Ty) => matNil st x.1 x.2.1 x.2.2) (fun h x => matNil_sound h _ _ _) hn.mat h
  obtain ⟨G2, h2⟩ := fold_sound (f := fun st (x : Nat × Nat × TypeId × Ty) => matNilB st x.1 x.2.1 x.2.2.1 x.2.2.2) (fun h x => matNilB_sound h _ _ _ _) hn.matB h1
  obtain ⟨G3, h3⟩ := fold_sound (f := roify) (fun h x => roify_sound h x) hn.roT h2
  obtain ⟨G4, h4⟩ := fold_sound (f := weaken) (fun h x => weaken_sound h x) hn.wk h3
  exact keep_sound h4 hn.live
theorem atHead_sound (hn : Option Hint) (h : Inv w0 G st a w) : ∃ G', Inv w0 G' (atHead hn st) a w := by
  cases hn with
  | none => exact ⟨G, h⟩
  | some hn => exact canon_sound hn h
theorem atExit_sound (hn : Option Hint) (e : Ex) (h : Inv w0 G st a w) : ∃ G', Inv w0 G' (atExit hn e st) a w := by
  cases hn with
  | none => exact ⟨G, h⟩
  | some hn =>
    cases e with
    | norm => exact ⟨G, h⟩
    | exit j => exact keep_sound h _
    | ret => exact keep_sound h _
end

/-! ### Regions -/
section
variable {N : Nat} {P : Program} {C : FuncId → Option Any} {w0 : Root} {α : Type} {r : α}

theorem opsRun_sound (hC : ∀ f con, C f = some con → AnyAt P w0 f con) {Q : Exit → Act → World → Prop} (ops : Array Oper) {k : St → Option α} (hK : Goes w0 k r (Q .normal)) :
    ∀ (l : List Oper) {w : World} {G : Gh} {st : St} {a : Act}, Inv w0 G st a w → opsRun P C (Par.std N) ops.toList l st k = some r → wpList P ops Q l a w
  | [], w, G, st, a, h, hr => hK G st a w h hr
  | o :: l, w, G, st, a, h, hr => by
    have run_ : ∀ {st : St} {G : Gh}, Inv w0 G st a w → Region.wanted o (yielded ops a.tmps) = true → opRun P C (Par.std N) o st (fun st => opsRun P C (Par.std N) ops.toList l st k) = some r → wpList P ops Q (o :: l) a w := by
      intro st G h hw hr
      show (if Region.wanted o (yielded ops a.tmps) then _ else _)
      rw [hw]
      exact .inl (opRun_sound hC h hr fun G' st' a' w' h' hr' => opsRun_sound hC ops hK l h' hr')
    have skip_ : ∀ {st : St} {G : Gh}, Inv w0 G st a w → Region.wanted o (yielded ops a.tmps) = false → St.pk st o.dst (.tup []) (fun st => opsRun P C (Par.std N) ops.toList l st k) = some r → wpList P ops Q (o :: l) a w := by
      intro st G h hw hr
      show (if Region.wanted o (yielded ops a.tmps) then _ else _)
      rw [hw]
      simp only [Bool.false_eq_true, if_false]
      exact pk_goes h (v := .tup []) (u := undef) ⟨#[], rfl, trivial⟩ hr fun G' st' a' w' h' hr' => opsRun_sound hC ops hK l h' hr'
    simp only [opsRun] at hr
    split at hr
    · rename_i hg
      exact run_ h (by simp [Region.wanted, hg]) hr
    · rename_i j want hg
      split at hr
      · rename_i oj hoj
        split at hr
        · rename_i dj hdj
          have hy := yielded_of (tmps := a.tmps) hoj hdj
          have hev := h.ev (.tmp dj)
          rw [show st.ev (.tmp dj) = st.get dj from rfl] at hev
          split at hr
          · rename_i b hb
            rw [hb] at hev
            have hv : a.tmps.getD dj undef = .bool b := hev
            rw [hv] at hy
            have hlit : ∀ b', b = b' → Inv w0 G (st.put dj (.v (.c (.bool b')))) a w := by
              intro b' hb'
              subst hb'
              exact h.lit (.tmp dj) b hv
            rcases br_some hr with ⟨hb1, hr⟩ | ⟨hb1, hr⟩
            · subst hb1
              cases want with
              | true => exact run_ (hlit true rfl) (by simp [Region.wanted, hg, hy]) hr
              | false => exact skip_ (hlit true rfl) (by simp [Region.wanted, hg, hy]) hr
            · subst hb1
              cases want with
              | true => exact skip_ (hlit false rfl) (by simp [Region.wanted, hg, hy]) hr
              | false => exact run_ (hlit false rfl) (by simp [Region.wanted, hg, hy]) hr
          · rename_i hb
            rw [hb] at hev
            obtain ⟨vs, hv, hvs⟩ := hev
            have hv : a.tmps.getD dj undef = .tuple vs := hv
            rw [hv] at hy
            exact skip_ h (by simp [Region.wanted, hg, hy]) hr
          · cases hr
        · cases hr
      · cases hr

theorem opsQ_sound (hC : ∀ f con, C f = some con → AnyAt P w0 f con) {Q : Exit → Act → World → Prop} (ops : Array Oper) {k : St → Option α} (hK : Goes w0 k r (Q .normal)) {w : World} :
    ∀ (l : List Oper) {G : Gh} {st : St} {a : Act}, (l.all fun o => quietOp P C o) = true → Inv w0 G st a w → opsRun P C (Par.std N) ops.toList l st k = some r →
      wpQuiet P ops (fun w' => Below w.heap.size w w') (fun a' => ∀ w', Below w.heap.size w w' → Q .normal a' w') l a
  | [], G, st, a, _, h, hr => fun w' hB => hK G st a w' (h.more hB) hr
  | o :: l, G, st, a, hq, h, hr => by
    rw [List.all_cons, Bool.and_eq_true] at hq
    have run_ : ∀ {st : St} {G : Gh}, Inv w0 G st a w → Region.wanted o (yielded ops a.tmps) = true → opRun P C (Par.std N) o st (fun st => opsRun P C (Par.std N) ops.toList l st k) = some r → wpQuiet P ops (fun w' => Below w.heap.size w w') (fun a' => ∀ w', Below w.heap.size w w' → Q .normal a' w') (o :: l) a := by
      intro st G h hw hr
      show (if Region.wanted o (yielded ops a.tmps) then _ else _)
      rw [hw]
      obtain ⟨v, G', st', h1, h2, h3⟩ := opRun_quiet hC hq.1 h hr
      exact ⟨v, h1, opsQ_sound hC ops hK l hq.2 h2 h3⟩
    have skip_ : ∀ {st : St} {G : Gh}, Inv w0 G st a w → Region.wanted o (yielded ops a.tmps) = false → St.pk st o.dst (.tup []) (fun st => opsRun P C (Par.std N) ops.toList l st k) = some r → wpQuiet P ops (fun w' => Below w.heap.size w w') (fun a' => ∀ w', Below w.heap.size w w' → Q .normal a' w') (o :: l) a := by
      intro st G h hw hr
      show (if Region.wanted o (yielded ops a.tmps) then _ else _)
      rw [hw]
      simp only [Bool.false_eq_true, if_false]
      obtain ⟨G', st', h1, h2⟩ := pk_goes (K := fun a' w' => ∃ G' st', Inv w0 G' st' a' w' ∧ opsRun P C (Par.std N) ops.toList l st' k = some r) h (v := .tup []) (u := undef) ⟨#[], rfl, trivial⟩ hr fun G' st' a' w' h' hr' => ⟨G', st', h', hr'⟩
      exact opsQ_sound hC ops hK l hq.2 h1 h2
    simp only [opsRun] at hr
    split at hr
    · rename_i hg
      exact run_ h (by simp [Region.wanted, hg]) hr
    · rename_i j want hg
      split at hr
      · rename_i oj hoj
        split at hr
        · rename_i dj hdj
          have hy := yielded_of (tmps := a.tmps) hoj hdj
          have hev := h.ev (.tmp dj)
          rw [show st.ev (.tmp dj) = st.get dj from rfl] at hev
          split at hr
          · rename_i b hb
            rw [hb] at hev
            have hv : a.tmps.getD dj undef = .bool b := hev
            rw [hv] at hy
            have hlit : ∀ b', b = b' → Inv w0 G (st.put dj (.v (.c (.bool b')))) a w := by
              intro b' hb'
              subst hb'
              exact h.lit (.tmp dj) b hv
            rcases br_some hr with ⟨hb1, hr⟩ | ⟨hb1, hr⟩
            · subst hb1
              cases want with
              | true => exact run_ (hlit true rfl) (by simp [Region.wanted, hg, hy]) hr
              | false => exact skip_ (hlit true rfl) (by simp [Region.wanted, hg, hy]) hr
            · subst hb1
              cases want with
              | true => exact skip_ (hlit false rfl) (by simp [Region.wanted, hg, hy]) hr
              | false => exact run_ (hlit false rfl) (by simp [Region.wanted, hg, hy]) hr
          · rename_i hb
            rw [hb] at hev
            obtain ⟨vs, hv, hvs⟩ := hev
            have hv : a.tmps.getD dj undef = .tuple vs := hv
            rw [hv] at hy
            exact skip_ h (by simp [Region.wanted, hg, hy]) hr
          · cases hr
        · cases hr
      · cases hr

/-! ### Code -/
def exOf : Ex → Exit
  | .norm => .normal
  | .exit id => .exit id
  | .ret => .ret
def GoesE (w0 : Root) (k : Ex → St → Option α) (r : α) (Q : Exit → Act → World → Prop) : Prop := ∀ e G' st' a' w', Inv w0 G' st' a' w' → k e st' = some r → Q (exOf e) a' w'

theorem run_sound (hC : ∀ f con, C f = some con → AnyAt P w0 f con) (H : Nat → Option Hint) : ∀ (c : Code) {st : St} {k : Ex → St → Option α} {G : Gh} {a : Act} {w : World} {Q : Exit → Act → World → Prop},
    Inv w0 G st a w → run P C (Par.std N) H c st k = some r → GoesE w0 k r Q → c.wp P Q a w
  | .skip, st, k, G, a, w, Q, h, hr, hK => wp_skip (hK .norm _ _ _ _ h hr)
  | .region id ops draw, st, k, G, a, w, Q, h, hr, hK => by
    simp only [run] at hr
    split at hr
    · rename_i hd
      cases draw with
      | false => exact wp_region_list (opsRun_sound hC ops (fun G' st' a' w' h' hr' => hK .norm _ _ _ _ h' hr') ops.toList h hr)
      | true =>
        have hd : drawOk P C ops = true := by simpa using hd
        simp only [drawOk, Bool.and_eq_true] at hd
        obtain ⟨⟨hm, hB⟩, hq⟩ := hd
        have hBd : Below w.heap.size w { w with drawn := w.drawn + 1 } := ⟨rfl, rfl, rfl, Nat.le_refl _, fun _ _ => rfl⟩
        exact wp_region_quiet (C := fun w' => Below w.heap.size w w') hm hB hBd (opsQ_sound hC ops (fun G' st' a' w' h' hr' => hK .norm _ _ _ _ h' hr') ops.toList hq h hr)
    · rename_i hd
      cases draw with
      | false => simp at hd
      | true =>
        split at hr
        · rename_i hm
          simp only [Bool.and_eq_true] at hm
          have hBd : Below w.heap.size w { w with drawn := w.drawn + 1 } := ⟨rfl, rfl, rfl, Nat.le_refl _, fun _ _ => rfl⟩
          obtain ⟨G2, st2, h2, hn2, hr2⟩ := frzs_inv h hr
          exact wp_region_noPanic (wp_region_any hm.1.1 (drawRun_sound hC (Q := NoPanic Q) (fun c a a' w h => h) hm.1.2 (by rw [hn2]; exact hm.2) (fun G' st' a' w' h' hr' => hK .norm _ _ _ _ h' hr') (h2.more hBd) hr2))
        · cases hr
  | .seq x y, st, k, G, a, w, Q, h, hr, hK => by
    simp only [run] at hr
    refine wp_seq (run_sound hC H x h hr fun e G' st' a' w' h' hr' => ?_)
    cases e with
    | norm => exact run_sound hC H y h' hr' hK
    | exit j => exact hK (.exit j) _ _ _ _ h' hr'
    | ret => exact hK .ret _ _ _ _ h' hr'
  | .cond c x y, st, k, G, a, w, Q, h, hr, hK => by
    simp only [run] at hr
    split at hr
    · rename_i b hb
      have hv := bool_of (h.ac c) hb
      refine wp_cond hv ?_
      rcases br_some hr with ⟨hb1, hr⟩ | ⟨hb1, hr⟩
      · subst hb1
        exact run_sound hC H x (h.lit c true hv) hr hK
      · subst hb1
        exact run_sound hC H y (h.lit c false hv) hr hK
    · cases hr
  | .block id x, st, k, G, a, w, Q, h, hr, hK => by
    simp only [run] at hr
    refine wp_block (run_sound hC H x h hr fun e G' st' a' w' h' hr' => ?_)
    cases e with
    | norm => exact hK .norm _ _ _ _ h' hr'
    | exit j =>
      dsimp only at hr'
      show (if j = id then Q .normal a' w' else Q (.exit j) a' w')
      split at hr'
      · rename_i hj
        rw [if_pos (beq_nat hj)]
        exact hK .norm _ _ _ _ h' hr'
      · rename_i hj
        rw [if_neg (by rintro rfl; simp at hj)]
        exact hK (.exit j) _ _ _ _ h' hr'
    | ret => exact hK .ret _ _ _ _ h' hr'
  | .loop b, st, k, G, a, w, Q, h, hr, hK => by
    simp only [run] at hr
    obtain ⟨G0, h0⟩ := atHead_sound (H (firstId b)) h
    refine wp_loop_ghost (fun n a w => ∃ G st, Inv w0 G st a w ∧ iter (fun st k => run P C (Par.std N) H b st k) (H (firstId b)) k n st = some r) N ⟨G0, _, h0, hr⟩ fun n a1 w1 hI => ?_
    obtain ⟨G1, st1, h1, hr1⟩ := hI
    cases n with
    | zero => cases hr1
    | succ n =>
      refine run_sound hC H b h1 hr1 fun e G' st' a' w' h' hr' => ?_
      cases e with
      | norm =>
        obtain ⟨G2, h2⟩ := atHead_sound (H (firstId b)) h'
        exact ⟨n, Nat.lt_succ_self n, G2, _, h2, hr'⟩
      | exit j =>
        obtain ⟨G2, h2⟩ := atExit_sound (H (firstId b)) (.exit j) h'
        exact hK (.exit j) _ _ _ _ h2 hr'
      | ret =>
        obtain ⟨G2, h2⟩ := atExit_sound (H (firstId b)) .ret h'
        exact hK .ret _ _ _ _ h2 hr'
  | .exit id, st, k, G, a, w, Q, h, hr, hK => wp_exit (hK (.exit id) _ _ _ _ h hr)
  | .ret, st, k, G, a, w, Q, h, hr, hK => wp_ret (hK .ret _ _ _ _ h hr)
  | .label _, _, _, _, _, _, _, _, hr, _ => by cases hr
  | .goto _, _, _, _, _, _, _, _, hr, _ => by cases hr
  | .refuse _, _, _, _, _, _, _, _, hr, _ => by cases hr
  | .rangeFunc _ _ _ _, _, _, _, _, _, _, _, hr, _ => by cases hr
  | .scope _, _, _, _, _, _, _, _, hr, _ => by cases hr
end
end Go.Am
