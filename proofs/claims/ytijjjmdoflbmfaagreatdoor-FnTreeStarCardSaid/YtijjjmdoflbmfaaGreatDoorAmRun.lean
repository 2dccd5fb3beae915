/- The machine's operations together. No condition. -/
import Derived.Test.YtijjjmdoflbmfaaGreatDoorAmTwo
set_option linter.unusedVariables false
set_option linter.unusedSimpArgs false
namespace Go.Am
open Go.RowKit
section
variable {N : Nat} {P : Program} {w0 : Root} {w : World} {G : Gh} {st : St} {a : Act} {α : Type} {k : St → Option α} {r : α} {K : Act → World → Prop} {Q : Exit → Act → World → Prop} {o : Oper}

/-! ### min, max -/
theorem minMax_run (h : Inv w0 G st a w) (w1 : World) (op : Bool) (kd : IntKind) : ∀ (l : List Operand) (x y : Int), minMax op st x l = some y →
    ((l.map a.eval).foldlM (if op then Builtin.max2 else Builtin.min2) (.int kd x)).run P w1 = .ok (.int kd y) w1
  | [], x, y, hm => by cases hm; rfl
  | o :: l, x, y, hm => by
    simp only [minMax] at hm
    split at hm
    · rename_i k' b hb
      have hv : a.eval o = .int k' b := by have := h.ac o; rw [hb] at this; exact this
      rw [List.map_cons, List.foldlM_cons, hv]
      cases op with
      | true =>
        have := minMax_run h w1 true kd l _ y hm
        simp only [if_true] at this ⊢
        rw [Sem.run_bind]
        exact this
      | false =>
        have := minMax_run h w1 false kd l _ y hm
        simp only [Bool.false_eq_true, if_false] at this ⊢
        rw [Sem.run_bind]
        exact this
    · cases hm

theorem calm_max (h : Inv w0 G st a w) {args : Array Operand} {ts : Array TypeId} (ho : o.op = .call { callee := .builtin .max, args := args, argTypes := ts }) {x : Operand} {l : List Operand} (ha : args.toList = x :: l)
    {kd : IntKind} {n y : Int} (hx : st.ac x = .int kd n) (hm : minMax true st n l = some y) (hr : st.pk o.dst (.v (.c (.int kd y))) k = some r) : Calmly P w0 w a o k r := by
  have hargs : args = (x :: l).toArray := by rw [← Array.toArray_toList (xs := args), ha]
  subst hargs
  have hv : a.eval x = .int kd n := by have := h.ac x; rw [hx] at this; exact this
  refine calm_of (u := .int kd y) h (v := .v (.c (.int kd y))) rfl hr fun w1 hB => ?_
  have hrun := minMax_run (P := P) h w1 true kd l n y hm
  simp only [if_true] at hrun
  unfold execOp
  rw [ho]
  simp only [resolve, Sem.run_bind, Sem.run_pure, Result.andThen_ok, invoke, builtin, Builtin.max_, List.map_toArray, List.map_cons, hv]
  rw [hrun]
  rfl

theorem calm_min (h : Inv w0 G st a w) {args : Array Operand} {ts : Array TypeId} (ho : o.op = .call { callee := .builtin .min, args := args, argTypes := ts }) {x : Operand} {l : List Operand} (ha : args.toList = x :: l)
    {kd : IntKind} {n y : Int} (hx : st.ac x = .int kd n) (hm : minMax false st n l = some y) (hr : st.pk o.dst (.v (.c (.int kd y))) k = some r) : Calmly P w0 w a o k r := by
  have hargs : args = (x :: l).toArray := by rw [← Array.toArray_toList (xs := args), ha]
  subst hargs
  have hv : a.eval x = .int kd n := by have := h.ac x; rw [hx] at this; exact this
  refine calm_of (u := .int kd y) h (v := .v (.c (.int kd y))) rfl hr fun w1 hB => ?_
  have hrun := minMax_run (P := P) h w1 false kd l n y hm
  simp only [Bool.false_eq_true, if_false] at hrun
  unfold execOp
  rw [ho]
  simp only [resolve, Sem.run_bind, Sem.run_pure, Result.andThen_ok, invoke, builtin, Builtin.min_, List.map_toArray, List.map_cons, hv]
  rw [hrun]
  rfl

/-! ### Calls -/
theorem sound_callB {f : FuncId} {con : Con} (hcon : ConAt P w0 f con) (h : Inv w0 G st a w) {args : Array Operand} {ts : Array TypeId} (ho : o.op = .call { callee := .value (.func f), args := args, argTypes := ts })
    (hr : callCon con st o.dst args.toList k = some r) (hK : ∀ G' st' a' w', Inv w0 G' st' a' w' → k st' = some r → Below w.heap.size w w' → K a' w') : o.wp P a w K Q := by
  unfold Oper.wp
  rw [run_call hcon.1 ho]
  unfold callCon at hr
  split at hr
  · rename_i x hx
    cases hg : con.g x with
    | none => rw [hg] at hr; cases hr
    | some y =>
      rw [hg] at hr
      simp only [Option.bind_some] at hr
      have hargs : (args.map a.eval) = (args.toList.map a.eval).toArray := by rw [← Array.toList_map, Array.toArray_toList]
      show Calls P f _ w _
      rw [hargs]
      cases hd : o.dst with
      | none => rw [hd] at hr; cases hr
      | some d =>
        rw [hd] at hr
        dsimp only at hr
        split at hr
        · rename_i hm
          obtain ⟨hc, hr⟩ := ck_some hr
          simp only [Bool.and_eq_true] at hc
          obtain ⟨G1, h1, hx1, hs1, hsd⟩ := h.freeze (callArgs st args.toList)
          have hrd := imArgs_rd (ok := RO G1 (ownNew st (callArgs st args.toList) && newAll (callArgs st args.toList))) h1 con.ps args.toList x
            (fun t c v xs hmem => frozen_rd' h1 (fun hn => by rw [Bool.and_eq_true] at hn; exact hn.1) (fun hn => by rw [Bool.and_eq_true] at hn; exact hn.2) t c v xs (by rw [callArgs_same hsd] at hmem; exact hmem))
            (by rw [imArgs_same hsd]; exact hx)
          refine Calls.mono (hcon.2 x y hg w h.below _ _ hrd) fun e w' he => ?_
          obtain ⟨us, rfl, hres, hB⟩ := he
          unfold ResOk at hres
          rw [hm] at hres
          exact back_ro (K := fun a' w'' => w'' = w' → K a' w'') hc.2 h1 hB hres (fun g hg => hg) (by rw [hsd.nt]; exact hc.1) hr (fun G' st' a' w'' h' hr' he => hK _ _ _ _ h' hr' (he ▸ hB)) rfl
        · rename_i hm
          obtain ⟨hc, hr⟩ := ck_some hr
          simp only [Bool.and_eq_true] at hc
          have hrd := imArgs_rd (ok := fun _ => True) h con.ps args.toList x (fun t c v xs _ => any_rd h t c v xs) hx
          refine Calls.mono (hcon.2 x y hg w h.below _ _ hrd) fun e w' he => ?_
          obtain ⟨us, rfl, hres, hB⟩ := he
          unfold ResOk at hres
          rw [hm] at hres
          exact back_ro (K := fun a' w'' => w'' = w' → K a' w'') (f := true) hc.2 h hB hres (fun g hg => .inl hg) hc.1 hr (fun G' st' a' w'' h' hr' he => hK _ _ _ _ h' hr' (he ▸ hB)) rfl
        · rename_i hm0 hm1
          obtain ⟨hc, hr⟩ := ck_some hr
          simp only [Bool.and_eq_true] at hc
          have hrd := imArgs_rd (ok := fun _ => True) h con.ps args.toList x (fun t c v xs _ => any_rd h t c v xs) hx
          refine Calls.mono (hcon.2 x y hg w h.below _ _ hrd) fun e w' he => ?_
          obtain ⟨us, rfl, hres, hB⟩ := he
          unfold ResOk at hres
          split at hres
          · exact absurd (by assumption) hm0
          · exact absurd (by assumption) hm1
          · exact back_own (K := fun a' w'' => w'' = w' → K a' w'') hc.2 h hB hres hc.1.2 hc.1.1 hr (fun G' st' a' w'' h' hr' he => hK _ _ _ _ h' hr' (he ▸ hB)) rfl
  · cases hr

theorem sound_call {f : FuncId} {con : Con} (hcon : ConAt P w0 f con) (h : Inv w0 G st a w) {args : Array Operand} {ts : Array TypeId} (ho : o.op = .call { callee := .value (.func f), args := args, argTypes := ts })
    (hr : callCon con st o.dst args.toList k = some r) (hK : Goes w0 k r K) : o.wp P a w K Q := sound_callB hcon h ho hr fun G' st' a' w' h' hr' _ => hK _ _ _ _ h' hr'

/-- More memory turns nothing. -/
theorem Inv.more (h : Inv w0 G st a w) {w1 : World} (hB : Below w.heap.size w w1) : Inv w0 G st a w1 := by
  have hx := below_ext h hB
  have hs := StLe.refl G st.bx st.bl
  have hle := h.below.size
  refine ⟨h.nw, h.rok, h.below.step hB.os hB.tape hB.output hB.size fun k hk _ => hB.block k (by omega), h.defers, h.size, h.sp.mono hx hs, h.hdMono hx, fun t v hv => (h.tm t v hv).mono hx hs, ?_, ?_, ?_⟩
  · intro d l hl
    obtain ⟨cs, e, h1, h2, h3⟩ := h.bx d l hl
    have hlt := (h.own _ _ h2).2.1
    exact ⟨cs, e, (hB.block _ hlt).trans h1, h2, h3.imp fun _ _ => RelC.mono hx hs⟩
  · intro id b hb
    exact (h.bl id b hb).mono hx rfl fun hw g hg ho => ⟨ho, hB.block _ (h.own _ _ ho).2.1⟩
  · intro g k hk
    obtain ⟨h1, h2, h3⟩ := h.own g k hk
    exact ⟨h1, Nat.lt_of_lt_of_le h2 hB.size, h3⟩

/-! ### A search with a function literal -/
theorem sound_callIdx {f : FuncId} {i : Idx} (hf : FnOk P f) (hi : ∀ W, Keeps w0.fr w0.w W → IdxIn P f i W) (h : Inv w0 G st a w) {args : Array Operand} {ts : Array TypeId} (ho : o.op = .call { callee := .value (.func f), args := args, argTypes := ts })
    (hr : callIdx i st o.dst args.toList k = some r) (hK : Goes w0 k r K) : o.wp P a w K Q := by
  unfold Oper.wp
  rw [run_call hf ho]
  unfold callIdx at hr
  split at hr
  · rename_i s x hargs0
    split at hr
    · rename_i g b hx
      split at hr
      · rename_i hg
        have hg := beq_nat hg
        split at hr
        · rename_i l hl
          split at hr
          · rename_i y hy
            split at hr
            · rename_i xs hxs
              have hargs : args.map a.eval = #[a.eval s, a.eval x] := by
                have e1 : args = #[s, x] := by rw [← Array.toArray_toList (xs := args), hargs0]
                rw [e1]
                simp
              have h1 := h.ac x
              rw [hx] at h1
              have hv : a.eval x = .func (.func i.g) #[] #[.pointer (some ⟨G.hb b, 0, none⟩)] := by
                rw [← hg]
                exact h1.2
              obtain ⟨cs, e, hh, hown, hrel⟩ := h.bx b l hl
              obtain ⟨vs1, vs2, he, hrd, hr2, _⟩ := im_rd (ok := fun _ => True) (fun t c v zs _ => any_rd h t c v zs) hrel hy
              have hv2 : vs2 = [] := by
                cases vs2 with
                | nil => rfl
                | cons _ _ => exact hr2.elim
              subst hv2
              rw [List.append_nil] at he
              rw [← he] at hrd
              have hs := any_rd h i.a.1 (st.ac s) (a.eval s) xs (h.ac s) hxs 0
              show Calls P f _ w _
              rw [hargs, hv]
              refine Calls.mono (hi w h.below xs y (a.eval s) (G.hb b) cs e 0 hs hh hrd) fun e' w' he' => ?_
              obtain ⟨rfl, hB⟩ := he'
              exact pk_goes (h.more hB) (v := .v (.c (.int .i64 (idxL (fun x => i.p x y) xs 0)))) (u := .int .i64 (idxL (fun x => i.p x y) xs 0)) rfl hr hK
            · cases hr
          · cases hr
        · cases hr
      · cases hr
    · cases hr
  · cases hr

/-! ### A row put into a row; a piece struck -/
theorem els_one {ok : Nat → Prop} {t : Ty} {cs : List Value} {xs : List t.D} (hp : 0 < t.n) (hl : cs.length = xs.length * t.n) (he : ElsIn w ok t cs xs) : ∀ u ∈ cs, u.oneCell' = true := by
  intro u hu
  obtain ⟨q, hq, rfl⟩ := List.mem_iff_getElem.1 hu
  have hj : q / t.n < xs.length := by
    rw [Nat.div_lt_iff_lt_mul hp]
    omega
  obtain ⟨c, h1, h2⟩ := he (q / t.n) xs[q / t.n] (List.getElem?_eq_getElem hj)
  have hm : q % t.n < c.length := by rw [h1.len]; exact Nat.mod_lt _ hp
  have h3 := h2 (q % t.n) c[q % t.n] (List.getElem?_eq_getElem hm)
  have e : q / t.n * t.n + q % t.n = q := by rw [Nat.mul_comm]; exact Nat.div_add_mod q t.n
  rw [e, List.getElem?_eq_getElem hq] at h3
  rw [Option.some.inj h3]
  exact h1.one _ (List.getElem_mem hm)
theorem els_drop {ok : Nat → Prop} {t : Ty} {cs : List Value} {xs : List t.D} (he : ElsIn w ok t cs xs) (m : Nat) : ElsIn w ok t (cs.drop (m * t.n)) (xs.drop m) := by
  intro j x hj
  rw [List.getElem?_drop] at hj
  obtain ⟨c, h1, h2⟩ := he (m + j) x hj
  refine ⟨c, h1, fun i u hu => ?_⟩
  rw [List.getElem?_drop, ← Nat.add_assoc, ← Nat.add_mul]
  exact h2 i u hu
theorem sound_ins {f : FuncId} {e : TypeId} {u : Ty} (hf : FnOk P f) (hi : ∀ W, Keeps w0.fr w0.w W → InsIn P f e u W) (h : Inv w0 G st a w) {args : Array Operand} {ts : Array TypeId} (ho : o.op = .call { callee := .value (.func f), args := args, argTypes := ts })
    (hr : insRun e u st o.dst args.toList k = some r) (hK : Goes w0 k r K) : o.wp P a w K Q := by
  unfold Oper.wp
  rw [run_call hf ho]
  unfold insRun at hr
  split at hr
  · rename_i d s i v hdst hargs0
    split at hr
    · rename_i n id2 hin hvn
      split at hr
      · rename_i b hb
        split at hr
        · rename_i hwe
          rw [Bool.and_eq_true] at hwe
          split at hr
          · rename_i ht
            split at hr
            · rename_i xs fl st1 hold
              split at hr
              · rename_i b1 hl1
                obtain ⟨hc, hr⟩ := ck_some hr
                simp only [Bool.and_eq_true, decide_eq_true_eq] at hc
                obtain ⟨⟨⟨⟨hc1, hc2⟩, hc3⟩, hc4⟩, hc5⟩ := hc
                obtain ⟨be, bt, bxs, bf, bw⟩ := b
                dsimp only at hwe ht hr hc4 hc5
                have htt := Ty.beq_eq ht
                subst htt
                obtain ⟨hw, hee⟩ := hwe
                have hee := beq_nat hee
                subst hee
                have hp : 0 < bt.n := Nat.pos_of_ne_zero (beq_nat_false hc1)
                have hargs : args.map a.eval = #[a.eval s, .int .i64 ((n.toNat : Nat) : Int), a.eval v] := by
                  have e1 : args = #[s, i, v] := by rw [← Array.toArray_toList (xs := args), hargs0]
                  have e2 := h.ac i
                  rw [hin] at e2
                  have e2 : a.eval i = .int .i64 n := e2
                  rw [e1, Int.toNat_of_nonneg hc2, ← e2]
                  simp
                have hvr := h.ac v
                rw [hvn] at hvr
                have hvv : a.eval v = G.hv id2 := hvr.2.2
                obtain ⟨ds, hd1, hd2, hd3⟩ := (h.bl id2 _ (blk_some hb)).wr hw
                obtain ⟨h1, hnt, hbx, ⟨cs, hown, hels⟩, hrow⟩ := oldRow_rel h (h.ac s) hold hp
                have hap : ∀ g, (a.eval s).ownBlock = some g → (a.eval v).ownBlock ≠ some g := by
                  intro g hg hg2
                  obtain ⟨id, h2, h3⟩ := hrow g hg
                  rw [hvv] at hg2
                  rw [hd2 g hg2] at h2
                  cases h2
                  rw [hl1] at h3
                  cases h3
                show Calls P f _ w _
                rw [hargs]
                refine Calls.mono (hi w h.below (a.eval s) (a.eval v) xs.length bxs.length n.toNat cs ds hown (by rw [hvv]; exact hd1) hap (by omega) (by omega) (by omega) (els_one hp hown.1 hels) (els_one hp hd1.1 hd3)) fun e' w' he' => ?_
                obtain ⟨v', rfl, hown', hg, hat⟩ := he'
                have weakL : ∀ q, RO G fl q → RO G (fl && (bf || flat bt)) q := fun q hq => hq.weak fun hh => by rw [Bool.and_eq_true] at hh; exact hh.1
                have hnR : ElsIn w (RO G (fl && (bf || flat bt))) bt ds bxs := by
                  cases hfl : flat bt with
                  | true => exact els_flat hfl hd3
                  | false => exact els_weak (fun q hq => hq.weak fun hh => by simp at hh; exact hh.2) hd3
                have hE := els_weak weakL hels
                have hlt : (cs.take (n.toNat * bt.n)).length = (xs.take n.toNat).length * bt.n := by
                  rw [List.length_take, List.length_take, hown.1, Nat.min_eq_left (Nat.mul_le_mul_right _ (by omega)), Nat.min_eq_left (by omega)]
                rw [hdst]
                refine row_goes h1 (a.eval s).ownBlock hg hrow d ⟨be, bt, xs.take n.toNat ++ bxs ++ xs.drop n.toNat, fl && (bf || flat bt), true⟩ rfl hp v' (cs.take (n.toNat * bt.n) ++ ds ++ cs.drop (n.toNat * bt.n)) ?_ ?_ (els_app ?_ (els_app hlt (els_take hE _) hnR) (els_drop hE _)) hr hK
                · have : (xs.take n.toNat ++ bxs ++ xs.drop n.toNat).length = xs.length + bxs.length := by
                    simp only [List.length_append, List.length_take, List.length_drop]
                    omega
                  show w'.ownsRow 0 be bt.n v' (xs.take n.toNat ++ bxs ++ xs.drop n.toNat).length _
                  rw [this]
                  exact hown'
                · intro q hq
                  rcases hat with hat | hat
                  · exact .inr (hat ▸ hq)
                  · exact .inl (hat q hq)
                · rw [List.length_append, hlt, hd1.1, List.length_append, Nat.add_mul]
              · cases hr
            · cases hr
          · cases hr
        · cases hr
      · cases hr
    · cases hr
  · cases hr
theorem sound_del {f : FuncId} {e : TypeId} {u : Ty} (hf : FnOk P f) (hi : ∀ W, Keeps w0.fr w0.w W → DelIn P f e u W) (h : Inv w0 G st a w) {args : Array Operand} {ts : Array TypeId} (ho : o.op = .call { callee := .value (.func f), args := args, argTypes := ts })
    (hr : delRun e u st o.dst args.toList k = some r) (hK : Goes w0 k r K) : o.wp P a w K Q := by
  unfold Oper.wp
  rw [run_call hf ho]
  unfold delRun at hr
  split at hr
  · rename_i d s i j hdst hargs0
    split at hr
    · rename_i n m hin hjn
      split at hr
      · rename_i xs fl st1 hold
        obtain ⟨hc, hr⟩ := ck_some hr
        simp only [Bool.and_eq_true, decide_eq_true_eq] at hc
        obtain ⟨⟨⟨hc1, hc2⟩, hc3⟩, hc4⟩ := hc
        have hp : 0 < u.n := Nat.pos_of_ne_zero (beq_nat_false hc1)
        have hargs : args.map a.eval = #[a.eval s, .int .i64 ((n.toNat : Nat) : Int), .int .i64 ((m.toNat : Nat) : Int)] := by
          have e1 : args = #[s, i, j] := by rw [← Array.toArray_toList (xs := args), hargs0]
          have e2 := h.ac i
          rw [hin] at e2
          have e2 : a.eval i = .int .i64 n := e2
          have e3 := h.ac j
          rw [hjn] at e3
          have e3 : a.eval j = .int .i64 m := e3
          rw [e1, Int.toNat_of_nonneg hc2, Int.toNat_of_nonneg (by omega), ← e2, ← e3]
          simp
        obtain ⟨h1, hnt, hbx, ⟨cs, hown, hels⟩, hrow⟩ := oldRow_rel h (h.ac s) hold hp
        show Calls P f _ w _
        rw [hargs]
        refine Calls.mono (hi w h.below (a.eval s) xs.length n.toNat m.toNat cs hown (by omega) (by omega) (els_one hp hown.1 hels)) fun e' w' he' => ?_
        obtain ⟨v', rfl, hown', hg, hat⟩ := he'
        have hlt : (cs.take (n.toNat * u.n)).length = (xs.take n.toNat).length * u.n := by
          rw [List.length_take, List.length_take, hown.1, Nat.min_eq_left (Nat.mul_le_mul_right _ (by omega)), Nat.min_eq_left (by omega)]
        rw [hdst]
        refine row_goes h1 (a.eval s).ownBlock hg hrow d ⟨e, u, xs.take n.toNat ++ xs.drop m.toNat, fl, true⟩ rfl hp v' (cs.take (n.toNat * u.n) ++ cs.drop (m.toNat * u.n)) ?_ ?_ (els_app hlt (els_take hels _) (els_drop hels _)) hr hK
        · have : (xs.take n.toNat ++ xs.drop m.toNat).length = n.toNat + (xs.length - m.toNat) := by
            simp only [List.length_append, List.length_take, List.length_drop]
            omega
          show w'.ownsRow 0 e u.n v' (xs.take n.toNat ++ xs.drop m.toNat).length _
          rw [this]
          exact hown'
        · intro q hq
          rcases hat with hat | hat
          · exact .inr (hat ▸ hq)
          · exact .inl (hat q hq)
      · cases hr
    · cases hr
  · cases hr

/-! ### A box that is never written to -/
theorem sound_boxRo (h : Inv w0 G st a w) (t : TypeId) (x : Operand) (ho : o.op = .box t x) {d : Tmp} (hdst : o.dst = some d) {u : Ty} {y : u.D} (hy : im st u (st.evc x).cells = some (y, []))
    (hr : ck (Nat.blt d st.nt && (st.evc x).kn && ownNew st (st.evc x).cells) (k ((st.freeze (st.evc x).cells).put d (.v (.c (.ero (newAll (st.evc x).cells) u y 0))))) = some r) (hK : Goes w0 k r K) : o.wp P a w K Q := by
  obtain ⟨hc, hk⟩ := ck_some hr
  simp only [Bool.and_eq_true] at hc
  obtain ⟨⟨h1, h2⟩, h3⟩ := hc
  refine wp_val (v := .pointer (some ⟨w.heap.size, 0, none⟩)) (w' := w.alloc (.cells (a.eval x).cells t)) ?_ ?_
  · unfold execOp
    rw [ho]
    simp [Instr.box, run_newVar]
  · rw [hdst]
    obtain ⟨G1, hi, hx, hs, hsd⟩ := Inv.freeze (st.evc x).cells h
    have hcell := ((h.evc x).cells h2).imp fun _ _ => RelC.mono hx hs
    obtain ⟨vs1, vs2, hv, hrd, hr2, _⟩ := im_rd (ok := RO G1 (newAll (st.evc x).cells)) (frozen_rd (bx := st.bx) hi h3 fun h => h) hcell (by rw [im_same hsd]; exact hy)
    have hv2 : vs2 = [] := by
      cases vs2 with
      | nil => rfl
      | cons _ _ => exact hr2.elim
    subst hv2
    rw [List.append_nil] at hv
    rw [← hv] at hrd
    have hB : Below w.heap.size w (w.alloc (.cells (a.eval x).cells t)) := ⟨rfl, rfl, rfl, by simp, fun k hk => Below.heap_alloc _ _ _ hk⟩
    have hi2 := hi.more hB
    have hown : G1.own w.heap.size = none := by
      cases hg : G1.own w.heap.size with
      | none => rfl
      | some q => exact absurd (hi.own _ q hg).2.1 (Nat.lt_irrefl _)
    refine hK _ _ _ _ (hi2.put d (by rw [hsd.nt]; exact blt_lt h1) (v := .v (.c (.ero (newAll (st.evc x).cells) u y 0))) ?_) hk
    refine ⟨w.heap.size, 0, (a.eval x).cells.toList, by simp, by simp, ⟨hown, .inl (hi.newNw (Nat.le_refl _))⟩, hrd.mono hB.size fun b hb hok => ⟨hok, hB.block b hb⟩, fun i v hv => ?_⟩
    rw [cell_of_row _ w.heap.size (0 + i) (a.eval x).cells t (0, 0) (heap_alloc_new w _), Nat.zero_add]
    simpa using hv

/-! ### All operations -/
theorem opRun_sound {C : FuncId → Option Any} (hC : ∀ f con, C f = some con → AnyAt P w0 f con) (h : Inv w0 G st a w) (hr : opRun P C (Par.std N) o st k = some r) (hK : Goes w0 k r K) : o.wp P a w K Q := by
  unfold opRun at hr
  split at hr
  · exact calmly_wp (calm_move h _ (.inl (by assumption)) hr) hK
  · exact calmly_wp (calm_move h _ (.inr (by assumption)) hr) hK
  · -- pick
    rename_i c x y hop
    split at hr
    · exact calmly_wp (calm_pick h c x y hop (by assumption) hr) hK
    · cases hr
  · -- box
    rename_i t x hop
    split at hr
    · rename_i d hd
      split at hr
      · split at hr
        · split at hr
          · exact sound_boxRo h t x hop hd (by assumption) hr hK
          · cases hr
        · cases hr
      · split at hr
        · exact sound_box h t x hop hd (by assumption) hr hK
        · cases hr
    · cases hr
  · -- alloc
    rename_i t hop
    split at hr
    · rename_i d hd
      split at hr
      · split at hr
        · exact sound_alloc h t hop hd (by assumption) (by assumption) hr hK
        · cases hr
      · cases hr
    · cases hr
  · -- build
    rename_i t parts hop
    split at hr
    · split at hr
      · exact calmly_wp (calm_build h t parts hop (by assumption) (by assumption) (by assumption) (by assumption) hr) hK
      · cases hr
    · cases hr
  · -- buildSlice
    rename_i t len parts hop
    split at hr
    · split at hr
      · split at hr
        · split at hr
          · exact sound_buildSlice h t len parts hop (by assumption) (by assumption) (by assumption) (by assumption) hr hK
          · cases hr
        · cases hr
      · cases hr
    · cases hr
  · -- load
    rename_i t x hop
    split at hr
    · rename_i l off hcell
      dsimp only at hr
      split at hr
      · rename_i hn
        split at hr
        · exact calmly_wp (calm_load h t x hop hcell hn (b := true) (by assumption) (v := .agg _) rfl hr) hK
        · split at hr
          · rename_i hagg _ y hq
            exact calmly_wp (calm_load h t x hop hcell hn (b := false) hagg (v := .c y) ⟨y, hq, rfl⟩ hr) hK
          · cases hr
        · cases hr
      · cases hr
    · cases hr
  · -- store
    rename_i t x y hop
    split at hr
    · rename_i hc
      simp only [Bool.and_eq_true] at hc
      obtain ⟨⟨⟨h1, h2⟩, h3⟩, h4⟩ := hc
      split at hr
      · split at hr
        · split at hr
          · exact sound_storeBox h t x y hop h1 h2 (beq_nat h3) h4 (by assumption) (by assumption) (ble_le (by assumption)) hr hK
          · cases hr
        · cases hr
      · split at hr
        · split at hr
          · rename_i hw
            simp only [Bool.and_eq_true] at hw
            split at hr
            · exact sound_storeElem h t x y hop h1 h2 (beq_nat h3) h4 (by assumption) (by assumption) hw.1.1 hw.1.2 hw.2 (by assumption) hr hK
            · cases hr
          · cases hr
        · cases hr
      · cases hr
    · cases hr
  · -- nilCheck
    rename_i x hop
    split at hr
    · exact calmly_wp (calm_nilCheck h x hop (by assumption) hr) hK
    · cases hr
  · -- binOp
    rename_i op xt x y yt hop
    split at hr
    · exact calmly_wp (calm_binOp h op xt x y yt hop (by assumption) (by assumption) hr) hK
    · split at hr
      · exact calmly_wp (calm_eqStruct h _ xt x y yt hop (by assumption) (by assumption) (by assumption) (.inl ⟨rfl, rfl⟩) hr) hK
      · exact calmly_wp (calm_eqStruct h _ xt x y yt hop (by assumption) (by assumption) (by assumption) (.inr ⟨rfl, rfl⟩) hr) hK
      · cases hr
    · cases hr
  · -- unOp
    rename_i op t x hop
    split at hr
    · exact calmly_wp (calm_not h t x hop (by assumption) hr) hK
    · exact calmly_wp (calm_neg h t x hop (by assumption) hr) hK
    · cases hr
  · -- convert
    rename_i src dst x hop
    split at hr
    · exact calmly_wp (calm_convInt h src dst x hop (by assumption) (by assumption) (by assumption) hr) hK
    · exact calmly_wp (calm_convStr h src dst x hop (by assumption) (by assumption) (by assumption) hr) hK
    · split at hr
      · obtain ⟨hc, hr⟩ := ck_some hr
        exact sound_toBytes h src dst x hop (by assumption) (by assumption) (by assumption) (by assumption) (by have := of_decide_eq_true hc; dsimp only [Par.std] at this; omega) hr hK
      · cases hr
    · split at hr
      · exact calmly_wp (calm_toStr h src dst x hop (by assumption) (by assumption) (by assumption) (by assumption) hr) hK
      · cases hr
    · cases hr
  · -- makeSlice
    rename_i t p q hop
    split at hr
    · split at hr
      · split at hr
        · obtain ⟨hc, hr⟩ := ck_some hr
          exact sound_makeSlice h t p q hop (by assumption) (by assumption) (by assumption) (by assumption) (by assumption) (by assumption) hc hr hK
        · cases hr
      · cases hr
    · cases hr
  · -- slice
    rename_i t x lo hi hop
    split at hr
    · split at hr
      · split at hr
        · obtain ⟨hc, hr⟩ := ck_some hr
          simp only [Bool.and_eq_true, decide_eq_true_eq] at hc
          exact calmly_wp (calm_cutStr h t x lo hi hop (by assumption) (by assumption) (by assumption) (by assumption) hc.1.1 hc.1.2 hc.2 hr) hK
        · cases hr
      · cases hr
    · split at hr
      · split at hr
        · obtain ⟨hc, hr⟩ := ck_some hr
          simp only [Bool.and_eq_true, decide_eq_true_eq] at hc
          exact calmly_wp (calm_cutRo h t x lo hi hop (by assumption) (by assumption) (beq_nat hc.1.1) (beq_nat_false hc.1.2) (by assumption) (by assumption) hc.2.1.1 hc.2.1.2 hc.2.2 hr) hK
        · cases hr
      · split at hr
        · split at hr
          · obtain ⟨hc, hr⟩ := ck_some hr
            simp only [Bool.and_eq_true, decide_eq_true_eq] at hc
            exact calmly_wp (calm_cutOwn h t x hi hop (by assumption) (by assumption) (by assumption) (beq_nat hc.1) (by assumption) hc.2.1 hc.2.2 hr) hK
          · cases hr
        · split at hr
          · obtain ⟨hc, hr⟩ := ck_some hr
            simp only [Bool.and_eq_true, decide_eq_true_eq] at hc
            exact calmly_wp (calm_cutOwnLo h t x _ hi hop (by assumption) (by assumption) (by assumption) (beq_nat hc.1) (by assumption) (by assumption) hc.2.1.1 hc.2.1.2 hc.2.2 hr) hK
          · cases hr
        · cases hr
      · cases hr
    · cases hr
  · -- fieldAddr
    rename_i t x f hop
    split at hr
    · split at hr
      · exact calmly_wp (calm_fieldAddr h t x f hop (by assumption) (by assumption) (by exact rfl) hr) hK
      · split at hr
        · exact calmly_wp (calm_fieldAddr h t x f hop (by assumption) (by assumption) (by exact ⟨rfl, _, blk_some (by assumption)⟩) hr) hK
        · cases hr
      · exact calmly_wp (calm_fieldAddr h t x f hop (by assumption) (by assumption) (by exact rfl) hr) hK
      · cases hr
    · cases hr
  · -- indexAddr
    rename_i t x i hop
    split at hr
    · split at hr
      · split at hr
        · split at hr
          · split at hr
            · obtain ⟨hc, hr⟩ := ck_some hr
              simp only [Bool.and_eq_true, decide_eq_true_eq] at hc
              exact calmly_wp (calm_indexOwn h t x i hop (by assumption) (by assumption) (by assumption) (by assumption) (by assumption) (beq_nat hc.1) hc.2.1 hc.2.2 hr) hK
            · cases hr
          · cases hr
        · obtain ⟨hc, hr⟩ := ck_some hr
          simp only [Bool.and_eq_true, decide_eq_true_eq] at hc
          exact calmly_wp (calm_indexRo h t x i hop (by assumption) (by assumption) (by assumption) (beq_nat hc.1.1) (beq_nat_false hc.1.2) hc.2.1 hc.2.2 hr) hK
        · cases hr
      · split at hr
        · obtain ⟨hc, hr⟩ := ck_some hr
          simp only [Bool.and_eq_true, decide_eq_true_eq] at hc
          exact calmly_wp (calm_indexArr h t x i hop (by assumption) (by assumption) (by assumption) (beq_nat_false hc.1) hc.2.1 hc.2.2 hr) hK
        · cases hr
      · cases hr
    · cases hr
  · -- index
    rename_i t x i hop
    split at hr
    · obtain ⟨hc, hr⟩ := ck_some hr
      simp only [Bool.and_eq_true, decide_eq_true_eq] at hc
      exact calmly_wp (calm_index h t x i hop (by assumption) (by assumption) (by assumption) hc.1 hc.2 hr) hK
    · cases hr
  · -- extract
    rename_i x i hop
    split at hr
    · split at hr
      · exact calmly_wp (calm_extract h x i hop (by assumption) (by assumption) hr) hK
      · cases hr
    · cases hr
  · -- call
    rename_i f args ts hop
    split at hr
    · rename_i con hcon
      exact sound_call (show ConAt P w0 f con from hC f (.one con) hcon) h hop hr hK
    · rename_i con hcon
      exact sound_call2 (show ConAt2 P w0 f con from hC f (.two con) hcon) h hop hr hK
    · rename_i con hcon
      exact sound_callS (show ConAtS P w0 f con from hC f (.sel con) hcon) h hop hr hK
    · rename_i i hcon
      have hi := hC f (.idx i) hcon
      exact sound_callIdx hi.1 hi.2 h hop hr hK
    · rename_i e u hcon
      have hi := hC f (.ins e u) hcon
      exact sound_ins hi.1 hi.2 h hop hr hK
    · rename_i e u hcon
      have hi := hC f (.del e u) hcon
      exact sound_del hi.1 hi.2 h hop hr hK
    · cases hr
  · -- len
    rename_i args ts hop
    split at hr
    · rename_i x t hx ht
      split at hr
      · split at hr
        · exact calmly_wp (calm_len h x t hop hx ht (by assumption) (.inl ⟨by assumption, _, by assumption⟩) hr) hK
        · cases hr
      · split at hr
        · cases hr
        · rename_i hns
          exact calmly_wp (calm_len h x t hop hx ht (by assumption) (.inr ⟨⟨_, by assumption⟩, fun s hs => hns s hs⟩) hr) hK
      · cases hr
    · cases hr
  · -- max
    rename_i args ts hop
    split at hr
    · split at hr
      · split at hr
        · exact calmly_wp (calm_max h hop (by assumption) (by assumption) (by assumption) hr) hK
        · cases hr
      · cases hr
    · cases hr
  · -- min
    rename_i args ts hop
    split at hr
    · split at hr
      · split at hr
        · exact calmly_wp (calm_min h hop (by assumption) (by assumption) (by assumption) hr) hK
        · cases hr
      · cases hr
    · cases hr
  · -- append
    rename_i args ts hop
    split at hr
    · split at hr
      · split at hr
        · exact sound_append h hop (by assumption) (by assumption) (by assumption) (by assumption) (by assumption) hr hK
        · cases hr
      · cases hr
    · cases hr
  · -- makeFunc
    rename_i g first caps hop
    split at hr
    · split at hr
      · exact calmly_wp (calm_makeFunc h g first caps hop (by assumption) (by assumption) (by assumption) hr) hK
      · cases hr
    · cases hr
  · cases hr
end
end Go.Am
