/- A function whose code the machine runs keeps its contract. No condition. -/
import Derived.Test.YtmmajfbohkbpjaaAmCode
set_option linter.unusedVariables false
set_option linter.unusedSimpArgs false
namespace Go.Am
open Go.RowKit
section
variable {N : Nat} {P : Program} {C : FuncId → Option Con} {w0 : Root} {w : World} {G : Gh} {st : St} {a : Act}

/-! ### What comes back -/
def resVal (a : Act) : ResultVar → Sem Value
  | .tmp t => pure (a.tmps.getD t undef)
  | .cell b t => do loadVar t (← asAddr (a.tmps.getD b undef))

theorem run_resCV (h : Inv w0 G st a w) {r : ResultVar} {c : CV} (hc : resCV P st r = some c) :
    ∃ u, RelCV G w st.bx st.bl c u ∧ (resVal a r).run P w = .ok u w := by
  cases r with
  | tmp t =>
    cases hc
    exact ⟨_, h.evc (.tmp t), rfl⟩
  | cell b t =>
    simp only [resCV] at hc
    split at hc
    · rename_i l off hcell
      obtain ⟨g, q, vs, hp, hcs, hrel⟩ := cellsAt_rel h (h.ac (.tmp b)) hcell
      have hrel' := (hrel.drop off).take (P.cellsOf t)
      have hcell' : CellsAt w g (q + off) ((vs.drop off).take (P.cellsOf t)) := hcs.drop.take
      have hlen := hrel'.len
      have hp : a.tmps.getD b undef = .pointer (some ⟨g, q + off, none⟩) := hp
      split at hc
      · rename_i hn
        have hn' := beq_nat hn
        split at hc
        · rename_i hagg
          cases hc
          have hrun := run_loadVar (P := P) hcell' (by omega) (.inr trivial) hagg
          obtain ⟨i, hi⟩ := info_of_agg hagg
          simp only [hi] at hrun
          exact ⟨_, ⟨_, rfl, hrel'⟩, by simp [resVal, hp, asAddr, hrun]⟩
        · rename_i hagg
          have hrun := run_loadVar (P := P) hcell' (by omega) (.inr trivial) hagg
          split at hc
          · rename_i y hy
            cases hc
            rw [hy] at hrel'
            obtain ⟨u, hu⟩ : ∃ u, (vs.drop off).take (P.cellsOf t) = [u] := by
              cases hm : (vs.drop off).take (P.cellsOf t) with
              | nil => rw [hm] at hrel'; exact hrel'.elim
              | cons u m =>
                rw [hm] at hrel'
                cases m with
                | nil => exact ⟨u, rfl⟩
                | cons _ _ => exact hrel'.2.elim
            rw [hu] at hrel' hcell'
            have hcu := hcell' 0 u rfl
            rw [Nat.add_zero] at hcu
            exact ⟨u, hrel'.1, by simp [resVal, hp, asAddr, hrun, hcu]⟩
          · cases hc
        · cases hc
      · cases hc
    · cases hc

theorem run_results (h : Inv w0 G st a w) {fn : Func} {l : List CV} (hc : resCVs P st fn.results.toList = some l) : ∃ us, All2 (RelCV G w st.bx st.bl) l us ∧ (results fn a.tmps).run P w = .ok (retVal us) w := by
  have key : ∀ (rs : List ResultVar) (l : List CV), resCVs P st rs = some l → ∃ us, All2 (RelCV G w st.bx st.bl) l us ∧
      ∀ (f : ResultVar → Sem Value), (∀ r, f r = resVal a r) → (rs.mapM f).run P w = .ok us w := by
    intro rs
    induction rs with
    | nil => intro l h; cases h; exact ⟨[], trivial, fun f _ => rfl⟩
    | cons x rs ih =>
      intro l hl
      simp only [resCVs] at hl
      split at hl
      · rename_i c hc
        split at hl
        · rename_i cs hcs
          cases hl
          obtain ⟨u, h1, h2⟩ := run_resCV h hc
          obtain ⟨us, h3, h4⟩ := ih cs hcs
          refine ⟨u :: us, ⟨h1, h3⟩, fun f hf => ?_⟩
          rw [List.mapM_cons, hf]
          simp only [Sem.run_bind, Sem.run_pure, Result.andThen_ok, h2, h4 f hf]
        · cases hl
      · cases hl
  obtain ⟨us, h1, h2⟩ := key _ _ hc
  refine ⟨us, h1, ?_⟩
  unfold results
  rw [Array.mapM_eq_mapM_toList]
  simp only [Sem.run_bind, Sem.run_map, Sem.run_pure]
  rw [h2 _ (fun r => by cases r <;> rfl)]
  simp only [Result.andThen_ok]
  congr 1
  cases us with
  | nil => rfl
  | cons v vs =>
    cases vs with
    | nil => rfl
    | cons v' vs => simp [retVal]

theorem resOk_mem {m : Nat} (l : List AC) : ∀ {seen : List Nat}, resOk st m seen l = true → ∀ c ∈ l, match c with
    | .own id _ => ∃ b, st.blk id = some b ∧ (m ≠ 0 → b.f = true)
    | .ro f _ _ _ => m = 1 → f = true
    | _ => True := by
  induction l with
  | nil => intro _ _ c hc; simp at hc
  | cons x l ih =>
    intro seen h c hc
    rcases List.mem_cons.1 hc with hc' | hc'
    · subst hc'
      cases c with
      | own id len =>
        simp only [resOk] at h
        split at h
        · rename_i b hb
          simp only [Bool.and_eq_true, Bool.or_eq_true] at h
          exact ⟨b, hb, fun hm => h.1.1.resolve_right fun e => hm (beq_nat e)⟩
        · cases h
      | ro f e t xs =>
        simp only [resOk, Bool.and_eq_true] at h
        intro hm
        subst hm
        exact h.1
      | _ => trivial
    · cases x with
      | own id len =>
        simp only [resOk] at h
        split at h
        · rename_i b hb
          simp only [Bool.and_eq_true] at h
          exact ih h.2 c hc'
        · cases h
      | ro f e t xs =>
        simp only [resOk, Bool.and_eq_true] at h
        exact ih h.2 c hc'
      | _ => exact ih (seen := seen) h c hc'

/-- Read only. -/
theorem res_ro (h : Inv w0 G st a w) {m : Nat} {rs : List (Ty × Bool)} {l : List CV} {us : List Value} (hus : All2 (RelCV G w st.bx st.bl) l us) {r : Args rs} (hok : resOk st m [] (cvCells l) = true) (hi : imVs st rs l = some r) {ok : Nat → Prop}
    (h0 : ∀ g, G.base ≤ g → ok g) (h1 : m = 0 → ∀ g, G.ok g → ok g) (hm : m = 0 ∨ m = 1) : ArgsRd w ok rs r us := by
  refine imVs_rd h rs l us r hus (fun t c v xs hc hr hd => ?_) hi
  have hmem := resOk_mem _ hok c hc
  have ro : ∀ f g, (m ≠ 0 → f = true) → RO G f g → ok g := by
    intro f g hf hg
    rcases hg.2 with h2 | ⟨h2, h3⟩
    · exact h0 g h2
    · rcases hm with rfl | rfl
      · exact h1 rfl g h3
      · rw [hf (by simp)] at h2; cases h2
  refine slData_rd h hr hd (fun id len b hcc hl => ?_) (fun f e u ys hcc => ?_)
  · subst hcc
    obtain ⟨b', hb', hf⟩ := hmem
    have := blk_some hb'
    rw [hl] at this
    have := Option.some.inj (Option.some.inj this)
    subst this
    refine ⟨fun g => ro b.f g hf, fun hw g hg => ?_⟩
    obtain ⟨cs, h2, h3, h4⟩ := (h.bl id b hl).wr hw
    exact h0 g (h.own g _ (h3 g hg)).1
  · subst hcc
    intro g
    refine ro f g fun hm0 => hmem (hm.resolve_left hm0)

/-! ### Rows handed on -/
def posOf : List AC → Nat → Nat → Option Nat
  | [], _, _ => none
  | .own i _ :: l, id, k => if i = id then some k else posOf l id (k + 1)
  | _ :: l, id, k => posOf l id (k + 1)
theorem posOf_at {id : Nat} {len : Option Int} {l : List AC} : ∀ {pre : List AC} {k : Nat}, (∀ len, AC.own id len ∉ pre) → posOf (pre ++ .own id len :: l) id k = some (k + pre.length)
  | [], k, _ => by simp [posOf]
  | c :: pre, k, h => by
    have h2 : ∀ len, AC.own id len ∉ pre := fun len hm => h len (by simp [hm])
    have ih := posOf_at (len := len) (l := l) (k := k + 1) h2
    have hs : posOf ((c :: pre) ++ .own id len :: l) id k = posOf (pre ++ .own id len :: l) id (k + 1) := by
      cases c with
      | own i ln =>
        have : i ≠ id := by rintro rfl; exact h ln (by simp)
        simp [posOf, this]
      | _ => rfl
    rw [hs, ih]
    simp
    omega

def ownOf (G : Gh) (all : List AC) (g : Nat) : Option Nat := match G.own g with
  | some (.bl id) => posOf all id 0
  | _ => none

theorem fr_of (h : Inv w0 G st a w) (all T : List AC) : ∀ {t : Ty} {pre L L' L'' : List AC} {seen : List Nat} {vs : List Value} {x : t.D}, all = pre ++ (L ++ T) → (∀ id len, AC.own id len ∈ pre → id ∈ seen) → resOk st 2 seen (L ++ T) = true →
    rowsOf st t L = some L'' → im st t L = some (x, L') → All2 (RelC G w st.bx st.bl) L vs →
    ∃ c1 vs1 vs2 seen', L = c1 ++ L' ∧ c1.length = t.n ∧ L'' = L' ∧ vs = vs1 ++ vs2 ∧ FrC w G.base (ownOf G all) t x pre.length vs1 ∧ All2 (RelC G w st.bx st.bl) L' vs2 ∧ resOk st 2 seen' (L' ++ T) = true ∧ (∀ id len, AC.own id len ∈ pre ++ c1 → id ∈ seen')
  | .int k, pre, L, L', L'', seen, vs, x, hall, hpre, hok, hrow, hi, hrel => by
    cases L with
    | nil => simp [im] at hi
    | cons c L =>
      cases c with
      | int l n =>
        simp only [im] at hi
        cases vs with
        | nil => exact hrel.elim
        | cons v vs =>
          simp only [rowsOf] at hrow
          cases hrow
          have h1 : v = .int l n := hrel.1
          split at hi
          · cases hi
            have h2 := kbeq_eq (by assumption)
            refine ⟨[.int l x], [v], vs, seen, rfl, rfl, rfl, rfl, by rw [h1, h2]; rfl, hrel.2, hok, ?_⟩
            intro id len hm
            simp at hm
            exact hpre id len hm
          · cases hi
      | _ => simp [im] at hi
  | .bool, pre, L, L', L'', seen, vs, x, hall, hpre, hok, hrow, hi, hrel => by
    cases L with
    | nil => simp [im] at hi
    | cons c L =>
      cases c with
      | bool b =>
        simp only [im] at hi
        cases vs with
        | nil => exact hrel.elim
        | cons v vs =>
          simp only [rowsOf] at hrow
          cases hrow
          have h1 : v = .bool b := hrel.1
          cases hi
          refine ⟨[.bool x], [v], vs, seen, rfl, rfl, rfl, rfl, by rw [h1]; rfl, hrel.2, hok, ?_⟩
          intro id len hm
          simp at hm
          exact hpre id len hm
      | _ => simp [im] at hi
  | .str, pre, L, L', L'', seen, vs, x, hall, hpre, hok, hrow, hi, hrel => by
    cases L with
    | nil => simp [im] at hi
    | cons c L =>
      cases c with
      | str b =>
        simp only [im] at hi
        cases vs with
        | nil => exact hrel.elim
        | cons v vs =>
          simp only [rowsOf] at hrow
          cases hrow
          have h1 : v = .string b := hrel.1
          cases hi
          refine ⟨[.str x], [v], vs, seen, rfl, rfl, rfl, rfl, by rw [h1]; rfl, hrel.2, hok, ?_⟩
          intro id len hm
          simp at hm
          exact hpre id len hm
      | _ => simp [im] at hi
  | .unit, pre, L, L', L'', seen, vs, x, hall, hpre, hok, hrow, hi, hrel => by
    simp only [im] at hi
    cases hi
    simp only [rowsOf] at hrow
    cases hrow
    exact ⟨[], [], vs, seen, rfl, rfl, rfl, rfl, rfl, hrel, hok, by simpa using hpre⟩
  | .pair p q, pre, L, L', L'', seen, vs, x, hall, hpre, hok, hrow, hi, hrel => by
    simp only [im] at hi
    split at hi
    · rename_i y r1 hy
      split at hi
      · rename_i z r2 hz
        cases hi
        simp only [rowsOf] at hrow
        split at hrow
        · rename_i r1' hr1
          obtain ⟨c1, vs1, vs2, seen1, h1, h2, h3, h4, h5, h6, h7, h8⟩ := fr_of h all T hall hpre hok hr1 hy hrel
          subst h3
          obtain ⟨c2, vs3, vs4, seen2, h9, h10, h11, h12, h13, h14, h15, h16⟩ := fr_of h all T (pre := pre ++ c1) (by rw [hall, h1, List.append_assoc, List.append_assoc]) h8 h7 hrow hz h6
          refine ⟨c1 ++ c2, vs1 ++ vs3, vs4, seen2, by rw [h1, h9, List.append_assoc], by simp [Ty.n, h2, h10], h11, by rw [h4, h12, List.append_assoc], ⟨vs1, vs3, rfl, h5, ?_⟩, h14, h15, by rw [← List.append_assoc]; exact h16⟩
          rw [List.length_append, h2] at h13
          exact h13
        · cases hrow
      · cases hi
    · cases hi
  | .sl e t, pre, L, L', L'', seen, vs, x, hall, hpre, hok, hrow, hi, hrel => by
    cases L with
    | nil => simp [im] at hi
    | cons c L =>
      simp only [im] at hi
      split at hi
      · rename_i xs hxs
        cases hi
        cases vs with
        | nil => exact hrel.elim
        | cons v vs =>
          cases c with
          | own id len =>
            simp only [List.cons_append, resOk] at hok
            split at hok
            · rename_i b hb
              simp only [Bool.and_eq_true, Bool.or_eq_true] at hok
              obtain ⟨⟨hf, ⟨hw, hns⟩, hlen⟩, hok⟩ := hok
              have hf : b.f = true := hf.resolve_right (by simp)
              cases len with
              | some l => simp at hlen
              | none =>
                simp only [rowsOf, hb] at hrow
                split at hrow
                · rename_i he
                  cases hrow
                  have he := beq_nat he
                  simp only [slData, hb] at hxs
                  split at hxs
                  · rename_i ht
                    have hxs := Option.some.inj hxs
                    have hbo := h.bl id b (blk_some hb)
                    obtain ⟨rows, h1, h2, h3⟩ := hbo.wr hw
                    have hpos := hbo.pos
                    obtain ⟨be, bt, bxs, bf, bw⟩ := b
                    dsimp only at *
                    have hte := Ty.beq_eq ht
                    subst hte
                    subst he
                    subst hf
                    have hxs : bxs = x := hxs
                    subst hxs
                    have hidp : ∀ len, AC.own id len ∉ pre := by
                      intro len hm
                      have := hpre id len hm
                      rw [← hasN_mem] at this
                      rw [this] at hns
                      cases hns
                    have hpos_ : posOf all id 0 = some pre.length := by
                      rw [hall, List.cons_append, posOf_at hidp, Nat.zero_add]
                    refine ⟨[.own id none], [v], vs, id :: seen, rfl, rfl, rfl, rfl, ⟨v, rows, rfl, hpos, ?_, ?_, ?_⟩, hrel.2, hok, ?_⟩
                    · rw [hrel.1.2.2]
                      exact h1
                    · intro g hg
                      rw [hrel.1.2.2] at hg
                      simp only [ownOf, h2 g hg, hpos_]
                    · refine els_weak (fun g hg => ⟨?_, by simp [ownOf, hg.1]⟩) h3
                      exact hg.2.resolve_right fun h4 => by simp at h4
                    · intro i ln hm
                      rcases List.mem_append.1 hm with hm | hm
                      · exact List.mem_cons_of_mem _ (hpre i ln hm)
                      · simp at hm
                        rw [hm.1]
                        simp
                  · cases hxs
                · cases hrow
            · cases hok
          | nil =>
            simp only [slData] at hxs
            cases hxs
            simp only [rowsOf] at hrow
            split at hrow
            · cases hrow
            · rename_i hn
              cases hrow
              have h1 : v = .slice none 0 0 := hrel.1
              refine ⟨[.nil], [v], vs, seen, rfl, rfl, rfl, rfl, ⟨v, [], rfl, ?_, ?_, ?_, ?_⟩, hrel.2, hok, ?_⟩
              · cases hz : t.n with
                | zero => rw [hz] at hn; simp at hn
                | succ n => omega
              · rw [h1]
                exact ⟨by simp, .inl ⟨rfl, rfl⟩⟩
              · intro g hg
                rw [h1] at hg
                simp [Value.ownBlock] at hg
              · intro j x hj
                simp at hj
              · intro i ln hm
                simp at hm
                exact hpre i ln hm
          | ro f e' t' xs' => simp [resOk] at hok
          | _ => simp [slData] at hxs
      · cases hi

theorem res_own (h : Inv w0 G st a w) (all : List AC) : ∀ (rs : List (Ty × Bool)) (l : List CV) (us : List Value) (r : Args rs) {pre : List AC} {seen : List Nat}, All2 (RelCV G w st.bx st.bl) l us → all = pre ++ cvCells l → (∀ id len, AC.own id len ∈ pre → id ∈ seen) →
    resOk st 2 seen (cvCells l) = true → rowsOk st rs l = true → imVs st rs l = some r → ResFr w G.base (ownOf G all) rs r pre.length us
  | [], [], [], r, _, _, _, _, _, _, _, _ => rfl
  | _, [], _ :: _, _, _, _, hr, _, _, _, _, _ => hr.elim
  | _, _ :: _, [], _, _, _, hr, _, _, _, _, _ => hr.elim
  | [], _ :: _, _ :: _, _, _, _, _, _, _, _, _, hi => by simp [imVs] at hi
  | _ :: _, [], [], _, _, _, _, _, _, _, _, hi => by simp [imVs] at hi
  | p :: rs, o :: l, v :: us, r, pre, seen, hr, hall, hpre, hok, hrow, hi => by
    simp only [imVs] at hi
    split at hi
    · rename_i x hx
      split at hi
      · rename_i y hy
        cases hi
        simp only [rowsOk, Bool.and_eq_true] at hrow
        obtain ⟨hrow1, hrow2⟩ := hrow
        have hr1 : rowsOf st p.1 o.cells = some [] := by
          split at hrow1
          · assumption
          · cases hrow1
        have hev := hr.1
        -- the value's cells
        have hcells : ∃ vs, im st p.1 o.cells = some (x, []) ∧ All2 (RelC G w st.bx st.bl) o.cells vs ∧ v = (match p.2 with | true => .agg vs.toArray | false => vs.headD undef) := by
          unfold imV at hx
          split at hx
          · rename_i cs hp
            split at hx
            · rename_i z hz
              cases hx
              obtain ⟨vs, hv, hrel⟩ := hev
              refine ⟨vs.toList, hz, hrel, by rw [hp, hv, Array.toArray_toList]⟩
            · cases hx
          · rename_i c hp
            split at hx
            · rename_i z hz
              cases hx
              exact ⟨[v], hz, ⟨hev, trivial⟩, by rw [hp]; rfl⟩
            · cases hx
          · cases hx
        obtain ⟨vs, him, hrel, hval⟩ := hcells
        have hL : cvCells (o :: l) = o.cells ++ cvCells l := rfl
        rw [hL] at hall hok
        obtain ⟨c1, vs1, vs2, seen2, h1, h2, h3, h4, h5, h6, h7, h8⟩ := fr_of h all (cvCells l) hall hpre hok hr1 him hrel
        rw [List.append_nil] at h1
        cases vs2 with
        | cons _ _ => exact h6.elim
        | nil =>
          rw [List.append_nil] at h4
          subst h4
          have h9 := res_own h all rs l us y (pre := pre ++ o.cells) hr.2 (by rw [hall, List.append_assoc]) (by rw [h1]; exact h8) h7 hrow2 hy
          rw [List.length_append, h1, h2] at h9
          exact ⟨v, us, rfl, ⟨vs, h5, hval⟩, h9⟩
      · cases hi
    · cases hi

/-! ### A function's start -/
theorem tmOf_look : ∀ {l : List CV} {i t : Nat} {v : AV}, look (tmOf i l) t = some v → ∃ j c, t = i + j ∧ nth? l j = some c ∧ v = .v c
  | [], i, t, v, h => by simp [tmOf, look] at h
  | c :: l, i, t, v, h => by
    simp only [tmOf] at h
    rw [look_cons] at h
    by_cases hi : i = t
    · simp only [hi, if_true] at h
      cases h
      exact ⟨0, c, by omega, rfl, rfl⟩
    · simp only [hi, if_false] at h
      obtain ⟨j, c', h1, h2, h3⟩ := tmOf_look h
      exact ⟨j + 1, c', by omega, h2, h3⟩

theorem args_len {ok : Nat → Prop} : ∀ {ps : List (Ty × Bool)} {x : Args ps} {vs : List Value}, ArgsRd w ok ps x vs → vs.length = ps.length
  | [], _, vs, h => by rw [show vs = [] from h]; rfl
  | a :: l, x, vs, h => by
    obtain ⟨v, vs', rfl, _, h2⟩ := h
    simp [args_len h2]

def gh0 (w : World) (ok : Nat → Prop) : Gh := { base := w.heap.size, own := fun _ => none, hb := fun _ => 0, hv := fun _ => undef, ok := ok }

theorem inv0 {ok : Nat → Prop} {ps : List (Ty × Bool)} (hf : flatOk ps = true) {x : Args ps} {vs : List Value} (hx : ArgsRd w ok ps x vs) {nt : Nat} (hn : ps.length ≤ nt) :
    Inv ⟨w, ok⟩ (gh0 w ok) { nt := nt, tm := tmOf 0 (exPs ps x), bx := [], bl := [] } { tmps := vs.toArray ++ Array.replicate (nt - vs.toArray.size) undef, defers := [] } w := by
  have hlen := args_len hx
  have hrd : ArgsRd w (RO (gh0 w ok) false) ps x vs := args_weak (fun g hg => ⟨rfl, .inr ⟨rfl, hg⟩⟩) hx
  have hrel := exF_rel (bx := []) (bl := []) hf hrd
  refine ⟨rfl, rfl, Below.refl _ _, rfl, ?_, ?_, ?_, ?_, ?_⟩
  · simp [hlen]; omega
  · intro t v hv
    obtain ⟨j, c, h1, h2, rfl⟩ := tmOf_look hv
    rw [Nat.zero_add] at h1
    subst h1
    obtain ⟨y, hy, hr⟩ := hrel.nth h2
    have hlt : t < vs.length := (List.getElem?_eq_some_iff.1 hy).1
    have : (vs.toArray ++ Array.replicate (nt - vs.toArray.size) undef).getD t undef = y := by
      rw [Array.getD_eq_getD_getElem?, Array.getElem?_append_left (by simpa using hlt)]
      simp [hy]
    show RelAV _ w [] [] (.v c) ((vs.toArray ++ Array.replicate (nt - vs.toArray.size) undef).getD t undef)
    rw [this]
    exact hr
  · intro d l hl; simp [look] at hl
  · intro id b hb; simp [look] at hb
  · intro g k hk; simp [gh0] at hk

/-- **A FUNCTION WHOSE CODE THE MACHINE RUNS KEEPS ITS CONTRACT.** -/
theorem conOk_of_run (hC : ∀ f con, C f = some con → ConOk P f con) {f : FuncId} {fn : Func} {con : Con} (hf : P.funcs[f]? = some fn) (hn : (fn.name == "runtime.NumGoroutine") = false) (hb : fn.body.isNone = false)
    (H : Nat → Option Hint) (hrun : ∀ x r, con.g x = some r → ∃ N, runF P C (Par.std N) H fn con.ps con.rs con.m x = some r) : ConOk P f con := by
  refine ⟨⟨fn, hf, hn, hb⟩, fun x r hg w ok vs hargs => ?_⟩
  obtain ⟨N, hr⟩ := hrun x r hg
  obtain ⟨hc, hr⟩ := ck_some hr
  simp only [Bool.and_eq_true] at hc
  obtain ⟨c, hbody⟩ : ∃ c, fn.body = some c := by
    cases h : fn.body with
    | none => rw [h] at hb; cases hb
    | some c => exact ⟨c, rfl⟩
  have hcode : codeOf fn = c := by simp [codeOf, hbody]
  rw [hcode] at hr
  refine calls_of_wp hf hbody (run_sound hC H c (inv0 hc.1.1.2 hargs (ble_le hc.1.1.1)) hr fun e G' st' a' w' h' hr' => ?_)
  have post : ∀ e, e = Exit.normal ∨ e = Exit.ret → (match resCVs P st' fn.results.toList with
      | some l => match resOk st' con.m [] (cvCells l) && (match con.m with | 2 => rowsOk st' con.rs l | _ => true) with
        | true => imVs st' con.rs l
        | false => none
      | none => none) = some r → bodyPost P fn (fun e w' => ∃ us, e = .returned (retVal us) ∧ ResOk ok w w' con r us ∧ Below w.heap.size w w') e a' w' := by
    intro e he hr'
    split at hr'
    · rename_i l hl
      split at hr'
      · rename_i hok
        rw [Bool.and_eq_true] at hok
        obtain ⟨us, hus, hres⟩ := run_results (P := P) h' hl
        have hR : ∃ us', Ending.returned (retVal us) = .returned (retVal us') ∧ ResOk ok w w' con r us' ∧ Below w.heap.size w w' := by
          refine ⟨_, rfl, ?_, h'.below⟩
          have hbase : G'.base = w.heap.size := h'.base
          have hrok : G'.ok = ok := h'.rok
          unfold ResOk
          split
          · rename_i hm
            rw [hm] at hok
            exact res_ro h' hus hok.1 hr' (fun g hg => .inl (by rw [← hbase]; exact hg)) (fun _ g hg => .inr (by rw [← hrok]; exact hg)) (.inl rfl)
          · rename_i hm
            rw [hm] at hok
            exact res_ro h' hus hok.1 hr' (fun g hg => by rw [← hbase]; exact hg) (fun h0 => by cases h0) (.inr rfl)
          · rename_i hm0 hm1
            by_cases hm : con.m = 2
            · rw [hm] at hok
              refine ⟨ownOf G' (cvCells l), fun g j hg => ?_, ?_⟩
              · unfold ownOf at hg
                split at hg
                · rename_i id hid
                  rw [← hbase]
                  exact (h'.own g _ hid).1
                · cases hg
              · rw [← hbase]
                exact res_own h' (cvCells l) con.rs l us r hus (pre := []) (seen := []) rfl (fun id len hm => by simp at hm) hok.1 hok.2 hr'
            · have := ble_le hc.2
              have hm0' : con.m ≠ 0 := hm0
              have hm1' : con.m ≠ 1 := hm1
              omega
        rcases he with rfl | rfl
        · exact bodyPost_end hres h'.defers hR
        · exact bodyPost_ret hres h'.defers hR
      · cases hr'
    · cases hr'
  cases e with
  | norm => exact post .normal (.inl rfl) hr'
  | ret => exact post .ret (.inr rfl) hr'
  | exit j => cases hr'
end
end Go.Am
