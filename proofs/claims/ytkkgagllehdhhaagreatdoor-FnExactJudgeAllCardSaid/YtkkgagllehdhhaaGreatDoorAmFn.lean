/- A function whose code the machine runs keeps its contract. No condition. -/
import Derived.Test.YtkkgagllehdhhaaGreatDoorAmCode
set_option linter.unusedVariables false
set_option linter.unusedSimpArgs false
namespace Go.Am
open Go.RowKit
section
variable {N : Nat} {P : Program} {C : FuncId → Option Any} {w0 : Root} {w : World} {G : Gh} {st : St} {a : Act}

/-! ### What comes back -/
def resVal (a : Act) : ResultVar → Sem Value
  | .tmp t => pure (a.tmps.getD t undef)
  | .cell b t => do loadVar t (← asAddr (a.tmps.getD b undef))

theorem run_resCV (h : Inv w0 G st a w) {r : ResultVar} {c : CV} (hc : resCV P st r = some c) :
    ∃ u, RelCV G w st.bx st.bl c u ∧ (resVal a r).run P w = .ok u w := by
  cases r with
  | tmp t =>
    cases hc
    exact ⟨_, h.evc (.tmp t), rfl⟩
  | cell b t =>
    simp only [resCV] at hc
    split at hc
    · rename_i l off hcell
      obtain ⟨g, q, vs, hp, hcs, hrel⟩ := cellsAt_rel h (h.ac (.tmp b)) hcell
      have hrel' := (hrel.drop off).take (P.cellsOf t)
      have hcell' : CellsAt w g (q + off) ((vs.drop off).take (P.cellsOf t)) := hcs.drop.take
      have hlen := hrel'.len
      have hp : a.tmps.getD b undef = .pointer (some ⟨g, q + off, none⟩) := hp
      split at hc
      · rename_i hn
        have hn' := beq_nat hn
        split at hc
        · rename_i hagg
          cases hc
          have hrun := run_loadVar (P := P) hcell' (by omega) (.inr trivial) hagg
          obtain ⟨i, hi⟩ := info_of_agg hagg
          simp only [hi] at hrun
          exact ⟨_, ⟨_, rfl, hrel'⟩, by simp [resVal, hp, asAddr, hrun]⟩
        · rename_i hagg
          have hrun := run_loadVar (P := P) hcell' (by omega) (.inr trivial) hagg
          split at hc
          · rename_i y hy
            cases hc
            rw [hy] at hrel'
            obtain ⟨u, hu⟩ : ∃ u, (vs.drop off).take (P.cellsOf t) = [u] := by
              cases hm : (vs.drop off).take (P.cellsOf t) with
              | nil => rw [hm] at hrel'; exact hrel'.elim
              | cons u m =>
                rw [hm] at hrel'
                cases m with
                | nil => exact ⟨u, rfl⟩
                | cons _ _ => exact hrel'.2.elim
            rw [hu] at hrel' hcell'
            have hcu := hcell' 0 u rfl
            rw [Nat.add_zero] at hcu
            exact ⟨u, hrel'.1, by simp [resVal, hp, asAddr, hrun, hcu]⟩
          · cases hc
        · cases hc
      · cases hc
    · cases hc

theorem run_results (h : Inv w0 G st a w) {fn : Func} {l : List CV} (hc : resCVs P st fn.results.toList = some l) : ∃ us, All2 (RelCV G w st.bx st.bl) l us ∧ (results fn a.tmps).run P w = .ok (retVal us) w := by
  have key : ∀ (rs : List ResultVar) (l : List CV), resCVs P st rs = some l → ∃ us, All2 (RelCV G w st.bx st.bl) l us ∧
      ∀ (f : ResultVar → Sem Value), (∀ r, f r = resVal a r) → (rs.mapM f).run P w = .ok us w := by
    intro rs
    induction rs with
    | nil => intro l h; cases h; exact ⟨[], trivial, fun f _ => rfl⟩
    | cons x rs ih =>
      intro l hl
      simp only [resCVs] at hl
      split at hl
      · rename_i c hc
        split at hl
        · rename_i cs hcs
          cases hl
          obtain ⟨u, h1, h2⟩ := run_resCV h hc
          obtain ⟨us, h3, h4⟩ := ih cs hcs
          refine ⟨u :: us, ⟨h1, h3⟩, fun f hf => ?_⟩
          rw [List.mapM_cons, hf]
          simp only [Sem.run_bind, Sem.run_pure, Result.andThen_ok, h2, h4 f hf]
        · cases hl
      · cases hl
  obtain ⟨us, h1, h2⟩ := key _ _ hc
  refine ⟨us, h1, ?_⟩
  unfold results
  rw [Array.mapM_eq_mapM_toList]
  simp only [Sem.run_bind, Sem.run_map, Sem.run_pure]
  rw [h2 _ (fun r => by cases r <;> rfl)]
  simp only [Result.andThen_ok]
  congr 1
  cases us with
  | nil => rfl
  | cons v vs =>
    cases vs with
    | nil => rfl
    | cons v' vs => simp [retVal]

theorem resOk_mem {m : Nat} (l : List AC) : ∀ {seen : List Nat}, resOk st m seen l = true → ∀ c ∈ l, match c with
    | .own id _ => ∃ b, st.blk id = some b ∧ (m ≠ 0 → m ≠ 3 → b.f = true)
    | .ro f _ _ _ => m = 1 → f = true
    | _ => True := by
  induction l with
  | nil => intro _ _ c hc; simp at hc
  | cons x l ih =>
    intro seen h c hc
    rcases List.mem_cons.1 hc with hc' | hc'
    · subst hc'
      cases c with
      | own id len =>
        simp only [resOk] at h
        split at h
        · rename_i b hb
          simp only [Bool.and_eq_true, Bool.or_eq_true] at h
          exact ⟨b, hb, fun hm hm3 => (h.1.1.resolve_right fun e => hm3 (beq_nat e)).resolve_right fun e => hm (beq_nat e)⟩
        · cases h
      | ro f e t xs =>
        simp only [resOk, Bool.and_eq_true] at h
        intro hm
        subst hm
        exact h.1
      | _ => trivial
    · cases x with
      | own id len =>
        simp only [resOk] at h
        split at h
        · rename_i b hb
          simp only [Bool.and_eq_true] at h
          exact ih h.2 c hc'
        · cases h
      | ro f e t xs =>
        simp only [resOk, Bool.and_eq_true] at h
        exact ih h.2 c hc'
      | _ => exact ih (seen := seen) h c hc'

/-- Read only. -/
theorem res_ro (h : Inv w0 G st a w) {m : Nat} {rs : List (Ty × Bool)} {l : List CV} {us : List Value} (hus : All2 (RelCV G w st.bx st.bl) l us) {r : Args rs} (hok : resOk st m [] (cvCells l) = true) (hi : imVs st rs l = some r) {ok : Nat → Prop}
    (h0 : ∀ f g, (m ≠ 0 → f = true) → RO G f g → ok g) (h1 : ∀ g id, G.own g = some (.bl id) → ok g) (hm : m = 0 ∨ m = 1) : ArgsRd w ok rs r us := by
  refine imVs_rd h rs l us r hus (fun t c v xs hc hr hd => ?_) hi
  have hmem := resOk_mem _ hok c hc
  refine slData_rd h hr hd (fun id len b hcc hl => ?_) (fun f e u ys hcc => ?_)
  · subst hcc
    obtain ⟨b', hb', hf⟩ := hmem
    have := blk_some hb'
    rw [hl] at this
    have := Option.some.inj (Option.some.inj this)
    subst this
    refine ⟨fun g => h0 b.f g fun h0 => hf h0 (by rcases hm with rfl | rfl <;> simp), fun hw g hg => ?_⟩
    obtain ⟨cs, h2, h3, h4⟩ := (h.bl id b hl).wr hw
    exact h1 g id (h3 g hg)
  · subst hcc
    intro g
    refine h0 f g fun hm0 => hmem (hm.resolve_left hm0)

/-! ### A function's start -/
theorem tmOf_look : ∀ {l : List CV} {i t : Nat} {v : AV}, look (tmOf i l) t = some v → ∃ j c, t = i + j ∧ nth? l j = some c ∧ v = .v c
  | [], i, t, v, h => by simp [tmOf, look] at h
  | c :: l, i, t, v, h => by
    simp only [tmOf] at h
    rw [look_cons] at h
    by_cases hi : i = t
    · simp only [hi, if_true] at h
      cases h
      exact ⟨0, c, by omega, rfl, rfl⟩
    · simp only [hi, if_false] at h
      obtain ⟨j, c', h1, h2, h3⟩ := tmOf_look h
      exact ⟨j + 1, c', by omega, h2, h3⟩

theorem args_len {ok : Nat → Prop} : ∀ {ps : List (Ty × Bool)} {x : Args ps} {vs : List Value}, ArgsRd w ok ps x vs → vs.length = ps.length
  | [], _, vs, h => by rw [show vs = [] from h]; rfl
  | a :: l, x, vs, h => by
    obtain ⟨v, vs', rfl, _, h2⟩ := h
    simp [args_len h2]

def gh0 (w : World) (ok : Nat → Prop) : Gh := { nw := fun b => w.heap.size ≤ b, own := fun _ => none, hb := fun _ => 0, hv := fun _ => undef, ok := ok }
def root0 (w : World) (ok : Nat → Prop) : Root := { w := w, ok := ok, nw := fun b => w.heap.size ≤ b, fr := fun _ => False, hnw := fun _ h => h, hfr := fun _ h => h.elim }

theorem tm_rel {G : Gh} {bx : List (Nat × List AC)} {bl : List (Nat × Option Blk)} {cs : List CV} {vs : List Value} (hrel : All2 (RelCV G w bx bl) cs vs) {nt t : Nat} {v : AV} (hv : look (tmOf 0 cs) t = some v) :
    RelAV G w bx bl v ((vs.toArray ++ Array.replicate (nt - vs.toArray.size) undef).getD t undef) := by
  obtain ⟨j, c, h1, h2, rfl⟩ := tmOf_look hv
  rw [Nat.zero_add] at h1
  subst h1
  obtain ⟨y, hy, hr⟩ := hrel.nth h2
  have hlt : t < vs.length := (List.getElem?_eq_some_iff.1 hy).1
  have : (vs.toArray ++ Array.replicate (nt - vs.toArray.size) undef).getD t undef = y := by
    rw [Array.getD_eq_getD_getElem?, Array.getElem?_append_left (by simpa using hlt)]
    simp [hy]
  rw [this]
  exact hr

theorem inv0 {ok : Nat → Prop} {ps : List (Ty × Bool)} (hf : flatOk ps = true) {x : Args ps} {vs : List Value} (hx : ArgsRd w ok ps x vs) {nt : Nat} (hn : ps.length ≤ nt) :
    Inv (root0 w ok) (gh0 w ok) { nt := nt, tm := tmOf 0 (exPs ps x), bx := [], bl := [] } { tmps := vs.toArray ++ Array.replicate (nt - vs.toArray.size) undef, defers := [] } w := by
  have hlen := args_len hx
  have hrd : ArgsRd w (RO (gh0 w ok) false) ps x vs := args_weak (fun g hg => ⟨rfl, .inr ⟨rfl, hg⟩⟩) hx
  have hrel := exF_rel (bx := []) (bl := []) hf hrd
  refine ⟨rfl, rfl, Keeps.refl _ _, rfl, ?_, trivial, fun g b o hm => (by cases hm), ?_, ?_, ?_, ?_⟩
  · simp [hlen]; omega
  · exact fun t v hv => tm_rel hrel hv
  · intro d l hl; simp [look] at hl
  · intro id b hb; simp [look] at hb
  · intro g k hk; simp [gh0] at hk

/-- **A FUNCTION WHOSE CODE THE MACHINE RUNS KEEPS ITS CONTRACT.** -/
theorem conOk_of_run {T : Tab} (hC : ∀ f con, C f = some con → AnyOk P T f con) {f : FuncId} {fn : Func} {con : Con} (hf : P.funcs[f]? = some fn) (hn : (fn.name == "runtime.NumGoroutine") = false) (hb : fn.body.isNone = false)
    (H : Nat → Option Hint) (hrun : ∀ x r, con.g x = some r → ∃ N, runF P C (Par.std N) H fn con.ps con.rs con.m x = some r) : ConOk P T f con := by
  refine ⟨⟨fn, hf, hn, hb⟩, fun x r hg w hTw ok vs hargs => ?_⟩
  obtain ⟨N, hr⟩ := hrun x r hg
  obtain ⟨hc, hr⟩ := ck_some hr
  simp only [Bool.and_eq_true] at hc
  obtain ⟨c, hbody⟩ : ∃ c, fn.body = some c := by
    cases h : fn.body with
    | none => rw [h] at hb; cases hb
    | some c => exact ⟨c, rfl⟩
  have hcode : codeOf fn = c := by simp [codeOf, hbody]
  rw [hcode] at hr
  refine calls_of_wp hf hbody (run_sound (w0 := root0 w ok) (fun f con hf => (hC f con hf).at hTw fun _ h => h.elim) H c ((inv0 hc.1.1.2 hargs (ble_le hc.1.1.1)).setRob (robOf H)) hr fun e G' st' a' w' h' hr' => ?_)
  have post : ∀ e, e = Exit.normal ∨ e = Exit.ret → (match resCVs P st' fn.results.toList with
      | some l => match resOk st' con.m [] (cvCells l) && (match con.m with | 2 => rowsOk st' con.rs l | _ => true) with
        | true => imVs st' con.rs l
        | false => none
      | none => none) = some r → bodyPost P fn (fun e w' => ∃ us, e = .returned (retVal us) ∧ ResOk ok w w' con r us ∧ Below w.heap.size w w') e a' w' := by
    intro e he hr'
    split at hr'
    · rename_i l hl
      split at hr'
      · rename_i hok
        rw [Bool.and_eq_true] at hok
        obtain ⟨us, hus, hres⟩ := run_results (P := P) h' hl
        have hbase : G'.nw = fun b => w.heap.size ≤ b := h'.nw
        have hrok : G'.ok = ok := h'.rok
        have hnwg : ∀ g, G'.nw g → w.heap.size ≤ g := fun g hg => by rw [hbase] at hg; exact hg
        have hR : ∃ us', Ending.returned (retVal us) = .returned (retVal us') ∧ ResOk ok w w' con r us' ∧ Below w.heap.size w w' := by
          refine ⟨_, rfl, ?_, h'.below.below fun _ h => h⟩
          unfold ResOk
          split
          · rename_i hm
            rw [hm] at hok
            exact res_ro h' hus hok.1 hr' (fun f g _ hg => hg.2.elim (fun h => .inl (hnwg g h)) fun h => .inr (by rw [← hrok]; exact h.2)) (fun g id hg => .inl (hnwg g (h'.ownNw hg))) (.inl rfl)
          · rename_i hm
            rw [hm] at hok
            exact res_ro h' hus hok.1 hr' (fun f g hf hg => hg.2.elim (hnwg g) fun h => by rw [hf (by simp)] at h; cases h.1) (fun g id hg => hnwg g (h'.ownNw hg)) (.inr rfl)
          · rename_i hm0 hm1
            by_cases hm : con.m = 2
            · rw [hm] at hok
              refine ⟨ownOf G' (cvCells l), fun g j hg => ?_, ?_⟩
              · unfold ownOf at hg
                split at hg
                · rename_i id hid
                  exact hnwg g (h'.ownNw hid)
                · cases hg
              · exact (res_own (.inl rfl) (fun g hg => ⟨hg.2.elim (hnwg g) (fun h => by have := h.1; simp [m2] at this), by simp [ownOf, hg.1]⟩) h' (cvCells l) [] con.rs l us r hus (pre := []) (seen := []) (by simp) (fun id len hm => by simp at hm) (by rw [List.append_nil]; exact hok.1) hok.2 hr').1
            · have := ble_le hc.2
              have hm0' : con.m ≠ 0 := hm0
              have hm1' : con.m ≠ 1 := hm1
              omega
        rcases he with rfl | rfl
        · exact bodyPost_end hres h'.defers hR
        · exact bodyPost_ret hres h'.defers hR
      · cases hr'
    · cases hr'
  cases e with
  | norm => exact post .normal (.inl rfl) hr'
  | ret => exact post .ret (.inr rfl) hr'
  | exit j => cases hr'
end
end Go.Am
