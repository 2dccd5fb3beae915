/- The machine's operations together. No condition. -/
import Derived.Test.YtmmajfbohkbpjaaDoorAmTwo
set_option linter.unusedVariables false
set_option linter.unusedSimpArgs false
namespace Go.Am
open Go.RowKit
section
variable {N : Nat} {P : Program} {w0 : Root} {w : World} {G : Gh} {st : St} {a : Act} {α : Type} {k : St → Option α} {r : α} {K : Act → World → Prop} {Q : Exit → Act → World → Prop} {o : Oper}

/-! ### min, max -/
theorem minMax_run (h : Inv w0 G st a w) (w1 : World) (op : Bool) (kd : IntKind) : ∀ (l : List Operand) (x y : Int), minMax op st x l = some y →
    ((l.map a.eval).foldlM (if op then Builtin.max2 else Builtin.min2) (.int kd x)).run P w1 = .ok (.int kd y) w1
  | [], x, y, hm => by cases hm; rfl
  | o :: l, x, y, hm => by
    simp only [minMax] at hm
    split at hm
    · rename_i k' b hb
      have hv : a.eval o = .int k' b := by have := h.ac o; rw [hb] at this; exact this
      rw [List.map_cons, List.foldlM_cons, hv]
      cases op with
      | true =>
        have := minMax_run h w1 true kd l _ y hm
        simp only [if_true] at this ⊢
        rw [Sem.run_bind]
        exact this
      | false =>
        have := minMax_run h w1 false kd l _ y hm
        simp only [Bool.false_eq_true, if_false] at this ⊢
        rw [Sem.run_bind]
        exact this
    · cases hm

theorem calm_max (h : Inv w0 G st a w) {args : Array Operand} {ts : Array TypeId} (ho : o.op = .call { callee := .builtin .max, args := args, argTypes := ts }) {x : Operand} {l : List Operand} (ha : args.toList = x :: l)
    {kd : IntKind} {n y : Int} (hx : st.ac x = .int kd n) (hm : minMax true st n l = some y) (hr : st.pk o.dst (.v (.c (.int kd y))) k = some r) : Calmly P w0 w a o k r := by
  have hargs : args = (x :: l).toArray := by rw [← Array.toArray_toList (xs := args), ha]
  subst hargs
  have hv : a.eval x = .int kd n := by have := h.ac x; rw [hx] at this; exact this
  refine calm_of (u := .int kd y) h (v := .v (.c (.int kd y))) rfl hr fun w1 hB => ?_
  have hrun := minMax_run (P := P) h w1 true kd l n y hm
  simp only [if_true] at hrun
  unfold execOp
  rw [ho]
  simp only [resolve, Sem.run_bind, Sem.run_pure, Result.andThen_ok, invoke, builtin, Builtin.max_, List.map_toArray, List.map_cons, hv]
  rw [hrun]
  rfl

theorem calm_min (h : Inv w0 G st a w) {args : Array Operand} {ts : Array TypeId} (ho : o.op = .call { callee := .builtin .min, args := args, argTypes := ts }) {x : Operand} {l : List Operand} (ha : args.toList = x :: l)
    {kd : IntKind} {n y : Int} (hx : st.ac x = .int kd n) (hm : minMax false st n l = some y) (hr : st.pk o.dst (.v (.c (.int kd y))) k = some r) : Calmly P w0 w a o k r := by
  have hargs : args = (x :: l).toArray := by rw [← Array.toArray_toList (xs := args), ha]
  subst hargs
  have hv : a.eval x = .int kd n := by have := h.ac x; rw [hx] at this; exact this
  refine calm_of (u := .int kd y) h (v := .v (.c (.int kd y))) rfl hr fun w1 hB => ?_
  have hrun := minMax_run (P := P) h w1 false kd l n y hm
  simp only [Bool.false_eq_true, if_false] at hrun
  unfold execOp
  rw [ho]
  simp only [resolve, Sem.run_bind, Sem.run_pure, Result.andThen_ok, invoke, builtin, Builtin.min_, List.map_toArray, List.map_cons, hv]
  rw [hrun]
  rfl

/-! ### Calls -/
theorem sound_callB {f : FuncId} {con : Con} (hcon : ConAt P w0 f con) (h : Inv w0 G st a w) {args : Array Operand} {ts : Array TypeId} (ho : o.op = .call { callee := .value (.func f), args := args, argTypes := ts })
    (hr : callCon con st o.dst args.toList k = some r) (hK : ∀ G' st' a' w', Inv w0 G' st' a' w' → k st' = some r → Below w.heap.size w w' → K a' w') : o.wp P a w K Q := by
  unfold Oper.wp
  rw [run_call hcon.1 ho]
  unfold callCon at hr
  split at hr
  · rename_i x hx
    cases hg : con.g x with
    | none => rw [hg] at hr; cases hr
    | some y =>
      rw [hg] at hr
      simp only [Option.bind_some] at hr
      have hargs : (args.map a.eval) = (args.toList.map a.eval).toArray := by rw [← Array.toList_map, Array.toArray_toList]
      show Calls P f _ w _
      rw [hargs]
      cases hd : o.dst with
      | none => rw [hd] at hr; cases hr
      | some d =>
        rw [hd] at hr
        dsimp only at hr
        split at hr
        · rename_i hm
          obtain ⟨hc, hr⟩ := ck_some hr
          simp only [Bool.and_eq_true] at hc
          obtain ⟨G1, h1, hx1, hs1, hsd⟩ := h.freeze (callArgs st args.toList)
          have hrd := imArgs_rd (ok := RO G1 (ownNew st (callArgs st args.toList) && newAll (callArgs st args.toList))) h1 con.ps args.toList x
            (fun t c v xs hmem => frozen_rd' h1 (fun hn => by rw [Bool.and_eq_true] at hn; exact hn.1) (fun hn => by rw [Bool.and_eq_true] at hn; exact hn.2) t c v xs (by rw [callArgs_same hsd] at hmem; exact hmem))
            (by rw [imArgs_same hsd]; exact hx)
          refine Calls.mono (hcon.2 x y hg w h.below _ _ hrd) fun e w' he => ?_
          obtain ⟨us, rfl, hres, hB⟩ := he
          unfold ResOk at hres
          rw [hm] at hres
          exact back_ro (K := fun a' w'' => w'' = w' → K a' w'') hc.2 h1 hB hres (fun g hg => hg) (by rw [hsd.nt]; exact hc.1) hr (fun G' st' a' w'' h' hr' he => hK _ _ _ _ h' hr' (he ▸ hB)) rfl
        · rename_i hm
          obtain ⟨hc, hr⟩ := ck_some hr
          simp only [Bool.and_eq_true] at hc
          have hrd := imArgs_rd (ok := fun _ => True) h con.ps args.toList x (fun t c v xs _ => any_rd h t c v xs) hx
          refine Calls.mono (hcon.2 x y hg w h.below _ _ hrd) fun e w' he => ?_
          obtain ⟨us, rfl, hres, hB⟩ := he
          unfold ResOk at hres
          rw [hm] at hres
          exact back_ro (K := fun a' w'' => w'' = w' → K a' w'') (f := true) hc.2 h hB hres (fun g hg => .inl hg) hc.1 hr (fun G' st' a' w'' h' hr' he => hK _ _ _ _ h' hr' (he ▸ hB)) rfl
        · rename_i hm0 hm1
          obtain ⟨hc, hr⟩ := ck_some hr
          simp only [Bool.and_eq_true] at hc
          have hrd := imArgs_rd (ok := fun _ => True) h con.ps args.toList x (fun t c v xs _ => any_rd h t c v xs) hx
          refine Calls.mono (hcon.2 x y hg w h.below _ _ hrd) fun e w' he => ?_
          obtain ⟨us, rfl, hres, hB⟩ := he
          unfold ResOk at hres
          split at hres
          · exact absurd (by assumption) hm0
          · exact absurd (by assumption) hm1
          · exact back_own (K := fun a' w'' => w'' = w' → K a' w'') hc.2 h hB hres hc.1.2 hc.1.1 hr (fun G' st' a' w'' h' hr' he => hK _ _ _ _ h' hr' (he ▸ hB)) rfl
  · cases hr

theorem sound_call {f : FuncId} {con : Con} (hcon : ConAt P w0 f con) (h : Inv w0 G st a w) {args : Array Operand} {ts : Array TypeId} (ho : o.op = .call { callee := .value (.func f), args := args, argTypes := ts })
    (hr : callCon con st o.dst args.toList k = some r) (hK : Goes w0 k r K) : o.wp P a w K Q := sound_callB hcon h ho hr fun G' st' a' w' h' hr' _ => hK _ _ _ _ h' hr'

/-- More memory turns nothing. -/
theorem Inv.more (h : Inv w0 G st a w) {w1 : World} (hB : Below w.heap.size w w1) : Inv w0 G st a w1 := by
  have hx := below_ext h hB
  have hs := StLe.refl G st.bx st.bl
  have hle := h.below.size
  refine ⟨h.nw, h.rok, h.below.step hB.os hB.tape hB.output hB.size fun k hk _ => hB.block k (by omega), h.defers, h.size, h.sp.mono hx hs, h.hdMono hx, fun t v hv => (h.tm t v hv).mono hx hs, ?_, ?_, ?_⟩
  · intro d l hl
    obtain ⟨cs, e, h1, h2, h3⟩ := h.bx d l hl
    have hlt := (h.own _ _ h2).2.1
    exact ⟨cs, e, (hB.block _ hlt).trans h1, h2, h3.imp fun _ _ => RelC.mono hx hs⟩
  · intro id b hb
    exact (h.bl id b hb).mono hx rfl fun hw g hg ho => ⟨ho, hB.block _ (h.own _ _ ho).2.1⟩
  · intro g k hk
    obtain ⟨h1, h2, h3⟩ := h.own g k hk
    exact ⟨h1, Nat.lt_of_lt_of_le h2 hB.size, h3⟩

/-! ### A box that is never written to -/
theorem sound_boxRo (h : Inv w0 G st a w) (t : TypeId) (x : Operand) (ho : o.op = .box t x) {d : Tmp} (hdst : o.dst = some d) {u : Ty} {y : u.D} (hy : im st u (st.evc x).cells = some (y, []))
    (hr : ck (Nat.blt d st.nt && (st.evc x).kn && ownNew st (st.evc x).cells) (k ((st.freeze (st.evc x).cells).put d (.v (.c (.ero (newAll (st.evc x).cells) u y 0))))) = some r) (hK : Goes w0 k r K) : o.wp P a w K Q := by
  obtain ⟨hc, hk⟩ := ck_some hr
  simp only [Bool.and_eq_true] at hc
  obtain ⟨⟨h1, h2⟩, h3⟩ := hc
  refine wp_val (v := .pointer (some ⟨w.heap.size, 0, none⟩)) (w' := w.alloc (.cells (a.eval x).cells t)) ?_ ?_
  · unfold execOp
    rw [ho]
    simp [Instr.box, run_newVar]
  · rw [hdst]
    obtain ⟨G1, hi, hx, hs, hsd⟩ := Inv.freeze (st.evc x).cells h
    have hcell := ((h.evc x).cells h2).imp fun _ _ => RelC.mono hx hs
    obtain ⟨vs1, vs2, hv, hrd, hr2, _⟩ := im_rd (ok := RO G1 (newAll (st.evc x).cells)) (frozen_rd (bx := st.bx) hi h3 fun h => h) hcell (by rw [im_same hsd]; exact hy)
    have hv2 : vs2 = [] := by
      cases vs2 with
      | nil => rfl
      | cons _ _ => exact hr2.elim
    subst hv2
    rw [List.append_nil] at hv
    rw [← hv] at hrd
    have hB : Below w.heap.size w (w.alloc (.cells (a.eval x).cells t)) := ⟨rfl, rfl, rfl, by simp, fun k hk => Below.heap_alloc _ _ _ hk⟩
    have hi2 := hi.more hB
    have hown : G1.own w.heap.size = none := by
      cases hg : G1.own w.heap.size with
      | none => rfl
      | some q => exact absurd (hi.own _ q hg).2.1 (Nat.lt_irrefl _)
    refine hK _ _ _ _ (hi2.put d (by rw [hsd.nt]; exact blt_lt h1) (v := .v (.c (.ero (newAll (st.evc x).cells) u y 0))) ?_) hk
    refine ⟨w.heap.size, 0, (a.eval x).cells.toList, by simp, by simp, ⟨hown, .inl (hi.newNw (Nat.le_refl _))⟩, hrd.mono hB.size fun b hb hok => ⟨hok, hB.block b hb⟩, fun i v hv => ?_⟩
    rw [cell_of_row _ w.heap.size (0 + i) (a.eval x).cells t (0, 0) (heap_alloc_new w _), Nat.zero_add]
    simpa using hv

/-! ### All operations -/
theorem opRun_sound {C : FuncId → Option Any} (hC : ∀ f con, C f = some con → AnyAt P w0 f con) (h : Inv w0 G st a w) (hr : opRun P C (Par.std N) o st k = some r) (hK : Goes w0 k r K) : o.wp P a w K Q := by
  unfold opRun at hr
  split at hr
  · exact calmly_wp (calm_move h _ (.inl (by assumption)) hr) hK
  · exact calmly_wp (calm_move h _ (.inr (by assumption)) hr) hK
  · -- pick
    rename_i c x y hop
    split at hr
    · exact calmly_wp (calm_pick h c x y hop (by assumption) hr) hK
    · cases hr
  · -- box
    rename_i t x hop
    split at hr
    · rename_i d hd
      split at hr
      · split at hr
        · split at hr
          · exact sound_boxRo h t x hop hd (by assumption) hr hK
          · cases hr
        · cases hr
      · split at hr
        · exact sound_box h t x hop hd (by assumption) hr hK
        · cases hr
    · cases hr
  · -- alloc
    rename_i t hop
    split at hr
    · rename_i d hd
      split at hr
      · split at hr
        · exact sound_alloc h t hop hd (by assumption) (by assumption) hr hK
        · cases hr
      · cases hr
    · cases hr
  · -- build
    rename_i t parts hop
    split at hr
    · split at hr
      · exact calmly_wp (calm_build h t parts hop (by assumption) (by assumption) (by assumption) (by assumption) hr) hK
      · cases hr
    · cases hr
  · -- buildSlice
    rename_i t len parts hop
    split at hr
    · split at hr
      · split at hr
        · split at hr
          · exact sound_buildSlice h t len parts hop (by assumption) (by assumption) (by assumption) (by assumption) hr hK
          · cases hr
        · cases hr
      · cases hr
    · cases hr
  · -- load
    rename_i t x hop
    split at hr
    · rename_i l off hcell
      dsimp only at hr
      split at hr
      · rename_i hn
        split at hr
        · exact calmly_wp (calm_load h t x hop hcell hn (b := true) (by assumption) (v := .agg _) rfl hr) hK
        · split at hr
          · rename_i hagg _ y hq
            exact calmly_wp (calm_load h t x hop hcell hn (b := false) hagg (v := .c y) ⟨y, hq, rfl⟩ hr) hK
          · cases hr
        · cases hr
      · cases hr
    · cases hr
  · -- store
    rename_i t x y hop
    split at hr
    · rename_i hc
      simp only [Bool.and_eq_true] at hc
      obtain ⟨⟨⟨h1, h2⟩, h3⟩, h4⟩ := hc
      split at hr
      · split at hr
        · split at hr
          · exact sound_storeBox h t x y hop h1 h2 (beq_nat h3) h4 (by assumption) (by assumption) (ble_le (by assumption)) hr hK
          · cases hr
        · cases hr
      · split at hr
        · split at hr
          · rename_i hw
            simp only [Bool.and_eq_true] at hw
            split at hr
            · exact sound_storeElem h t x y hop h1 h2 (beq_nat h3) h4 (by assumption) (by assumption) hw.1.1 hw.1.2 hw.2 (by assumption) hr hK
            · cases hr
          · cases hr
        · cases hr
      · cases hr
    · cases hr
  · -- nilCheck
    rename_i x hop
    split at hr
    · exact calmly_wp (calm_nilCheck h x hop (by assumption) hr) hK
    · cases hr
  · -- binOp
    rename_i op xt x y yt hop
    split at hr
    · exact calmly_wp (calm_binOp h op xt x y yt hop (by assumption) (by assumption) hr) hK
    · split at hr
      · exact calmly_wp (calm_eqStruct h _ xt x y yt hop (by assumption) (by assumption) (by assumption) (.inl ⟨rfl, rfl⟩) hr) hK
      · exact calmly_wp (calm_eqStruct h _ xt x y yt hop (by assumption) (by assumption) (by assumption) (.inr ⟨rfl, rfl⟩) hr) hK
      · cases hr
    · cases hr
  · -- unOp
    rename_i op t x hop
    split at hr
    · exact calmly_wp (calm_not h t x hop (by assumption) hr) hK
    · exact calmly_wp (calm_neg h t x hop (by assumption) hr) hK
    · cases hr
  · -- convert
    rename_i src dst x hop
    split at hr
    · exact calmly_wp (calm_convInt h src dst x hop (by assumption) (by assumption) (by assumption) hr) hK
    · exact calmly_wp (calm_convStr h src dst x hop (by assumption) (by assumption) (by assumption) hr) hK
    · split at hr
      · obtain ⟨hc, hr⟩ := ck_some hr
        exact sound_toBytes h src dst x hop (by assumption) (by assumption) (by assumption) (by assumption) (by have := of_decide_eq_true hc; dsimp only [Par.std] at this; omega) hr hK
      · cases hr
    · split at hr
      · exact calmly_wp (calm_toStr h src dst x hop (by assumption) (by assumption) (by assumption) (by assumption) hr) hK
      · cases hr
    · cases hr
  · -- makeSlice
    rename_i t p q hop
    split at hr
    · split at hr
      · split at hr
        · obtain ⟨hc, hr⟩ := ck_some hr
          exact sound_makeSlice h t p q hop (by assumption) (by assumption) (by assumption) (by assumption) (by assumption) (by assumption) hc hr hK
        · cases hr
      · cases hr
    · cases hr
  · -- slice
    rename_i t x lo hi hop
    split at hr
    · split at hr
      · split at hr
        · obtain ⟨hc, hr⟩ := ck_some hr
          simp only [Bool.and_eq_true, decide_eq_true_eq] at hc
          exact calmly_wp (calm_cutStr h t x lo hi hop (by assumption) (by assumption) (by assumption) (by assumption) hc.1.1 hc.1.2 hc.2 hr) hK
        · cases hr
      · cases hr
    · split at hr
      · split at hr
        · obtain ⟨hc, hr⟩ := ck_some hr
          simp only [Bool.and_eq_true, decide_eq_true_eq] at hc
          exact calmly_wp (calm_cutRo h t x lo hi hop (by assumption) (by assumption) (beq_nat hc.1.1) (beq_nat_false hc.1.2) (by assumption) (by assumption) hc.2.1.1 hc.2.1.2 hc.2.2 hr) hK
        · cases hr
      · split at hr
        · split at hr
          · obtain ⟨hc, hr⟩ := ck_some hr
            simp only [Bool.and_eq_true, decide_eq_true_eq] at hc
            exact calmly_wp (calm_cutOwn h t x hi hop (by assumption) (by assumption) (by assumption) (beq_nat hc.1) (by assumption) hc.2.1 hc.2.2 hr) hK
          · cases hr
        · split at hr
          · obtain ⟨hc, hr⟩ := ck_some hr
            simp only [Bool.and_eq_true, decide_eq_true_eq] at hc
            exact calmly_wp (calm_cutOwnLo h t x _ hi hop (by assumption) (by assumption) (by assumption) (beq_nat hc.1) (by assumption) (by assumption) hc.2.1.1 hc.2.1.2 hc.2.2 hr) hK
          · cases hr
        · cases hr
      · cases hr
    · cases hr
  · -- fieldAddr
    rename_i t x f hop
    split at hr
    · split at hr
      · exact calmly_wp (calm_fieldAddr h t x f hop (by assumption) (by assumption) (by exact rfl) hr) hK
      · split at hr
        · exact calmly_wp (calm_fieldAddr h t x f hop (by assumption) (by assumption) (by exact ⟨rfl, _, blk_some (by assumption)⟩) hr) hK
        · cases hr
      · exact calmly_wp (calm_fieldAddr h t x f hop (by assumption) (by assumption) (by exact rfl) hr) hK
      · cases hr
    · cases hr
  · -- indexAddr
    rename_i t x i hop
    split at hr
    · split at hr
      · split at hr
        · split at hr
          · split at hr
            · obtain ⟨hc, hr⟩ := ck_some hr
              simp only [Bool.and_eq_true, decide_eq_true_eq] at hc
              exact calmly_wp (calm_indexOwn h t x i hop (by assumption) (by assumption) (by assumption) (by assumption) (by assumption) (beq_nat hc.1) hc.2.1 hc.2.2 hr) hK
            · cases hr
          · cases hr
        · obtain ⟨hc, hr⟩ := ck_some hr
          simp only [Bool.and_eq_true, decide_eq_true_eq] at hc
          exact calmly_wp (calm_indexRo h t x i hop (by assumption) (by assumption) (by assumption) (beq_nat hc.1.1) (beq_nat_false hc.1.2) hc.2.1 hc.2.2 hr) hK
        · cases hr
      · split at hr
        · obtain ⟨hc, hr⟩ := ck_some hr
          simp only [Bool.and_eq_true, decide_eq_true_eq] at hc
          exact calmly_wp (calm_indexArr h t x i hop (by assumption) (by assumption) (by assumption) (beq_nat_false hc.1) hc.2.1 hc.2.2 hr) hK
        · cases hr
      · cases hr
    · cases hr
  · -- index
    rename_i t x i hop
    split at hr
    · obtain ⟨hc, hr⟩ := ck_some hr
      simp only [Bool.and_eq_true, decide_eq_true_eq] at hc
      exact calmly_wp (calm_index h t x i hop (by assumption) (by assumption) (by assumption) hc.1 hc.2 hr) hK
    · cases hr
  · -- extract
    rename_i x i hop
    split at hr
    · split at hr
      · exact calmly_wp (calm_extract h x i hop (by assumption) (by assumption) hr) hK
      · cases hr
    · cases hr
  · -- call
    rename_i f args ts hop
    split at hr
    · rename_i con hcon
      exact sound_call (show ConAt P w0 f con from hC f (.one con) hcon) h hop hr hK
    · rename_i con hcon
      exact sound_call2 (show ConAt2 P w0 f con from hC f (.two con) hcon) h hop hr hK
    · cases hr
  · -- len
    rename_i args ts hop
    split at hr
    · rename_i x t hx ht
      split at hr
      · split at hr
        · exact calmly_wp (calm_len h x t hop hx ht (by assumption) (.inl ⟨by assumption, _, by assumption⟩) hr) hK
        · cases hr
      · split at hr
        · cases hr
        · rename_i hns
          exact calmly_wp (calm_len h x t hop hx ht (by assumption) (.inr ⟨⟨_, by assumption⟩, fun s hs => hns s hs⟩) hr) hK
      · cases hr
    · cases hr
  · -- max
    rename_i args ts hop
    split at hr
    · split at hr
      · split at hr
        · exact calmly_wp (calm_max h hop (by assumption) (by assumption) (by assumption) hr) hK
        · cases hr
      · cases hr
    · cases hr
  · -- min
    rename_i args ts hop
    split at hr
    · split at hr
      · split at hr
        · exact calmly_wp (calm_min h hop (by assumption) (by assumption) (by assumption) hr) hK
        · cases hr
      · cases hr
    · cases hr
  · -- append
    rename_i args ts hop
    split at hr
    · split at hr
      · split at hr
        · exact sound_append h hop (by assumption) (by assumption) (by assumption) (by assumption) (by assumption) hr hK
        · cases hr
      · cases hr
    · cases hr
  · cases hr
end
end Go.Am
