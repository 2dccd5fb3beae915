/- Plain laws. No condition. -/
import Derived.Test.YtijjjmdoflbmfaaGreatDoorJsLawJ1
import Derived.Test.YtijjjmdoflbmfaaGreatDoorAmData
set_option linter.unusedVariables false
set_option linter.unusedSimpArgs false
namespace Go.Am.Tryz
open Go.Am
abbrev QcD := Int × ByteArray × List Int
def nameOk (l : List UInt8) : Bool := (stepsOf l).2
def viewOf (l : List UInt8) : Int := match (stepsOf l).1.getLast? with | some s => s.1 | none => 0
theorem stepsOf_bad {l : List UInt8} (h : (stepsOf l).2 = false) : (stepsOf l).1 = [] := by
  unfold stepsOf at h ⊢
  split
  · rfl
  · rename_i h0
    rw [if_neg h0] at h
    split
    · rfl
    · rename_i hp
      rw [hp] at h
      dsimp only at h
      split
      · rfl
      · rename_i h1
        rw [if_neg h1] at h
        split
        · rfl
        · rename_i hr
          rw [hr] at h
          cases h
theorem NameOk_law {l : List UInt8} (h : l.length ≤ 1073741824) : spec_NameOk F0 (tx l) = some (nameOk l, ()) := by
  rw [spec_NameOk_eq, Steps_law h, bnd]
  rfl
theorem NameOk_law2 {l : List UInt8} (h : l.length ≤ 1073741824) : impl_NameOk F0 (tx l) = some (nameOk l, ()) := by
  rw [impl_NameOk_eq, Steps_law2 h, bnd]
  rfl
theorem last_view (ss : List StepD) (hlen : ss.length ≤ 30) (d : StepD := (0, [])) : br ((ss.length : Int) == 0) (some ((0 : Int), ())) (ck (okI (w64 ((ss.length : Int) - 1)) (ss.length : Int)) (some ((at_ ss (w64 ((ss.length : Int) - 1)) d).1, ()))) = some ((match ss.getLast? with | some s => s.1 | none => 0), ()) := by
  cases hs : ss with
  | nil => rfl
  | cons s r =>
    rw [← hs]
    have h0 : ss.length ≠ 0 := by rw [hs]; simp
    have h1 : ((ss.length : Int) == 0) = false := beq_eq_false_iff_ne.2 (by omega)
    have h2 : w64 ((ss.length : Int) - 1) = ((ss.length - 1 : Nat) : Int) := by rw [w64_in (by omega) (by omega)]; omega
    rw [h1, br_false, h2, okI_nat (by omega), ck_true, at_is (by omega), List.getLast?_eq_getElem?, List.getElem?_eq_getElem (by omega)]
theorem ViewOf_law {l : List UInt8} (h : l.length ≤ 1073741824) : spec_ViewOf F0 (tx l) = some (viewOf l, ()) := by
  rw [spec_ViewOf_eq, Steps_law h, bnd]
  dsimp only
  cases hb : (stepsOf l).2 with
  | true =>
    rw [Bool.not_true, br_false]
    exact last_view _ (stepsOf_len l)
  | false =>
    rw [Bool.not_false, br_true]
    unfold viewOf
    rw [stepsOf_bad hb]
    rfl
theorem ViewOf_law2 {l : List UInt8} (h : l.length ≤ 1073741824) : impl_ViewOf F0 (tx l) = some (viewOf l, ()) := by
  rw [impl_ViewOf_eq, Steps_law2 h, bnd]
  exact last_view _ (stepsOf_len l)
/-! ### Quorums -/
def confOk (c : Int × Int) : Bool := inR 4 7 c.1 && inR 1 6 c.2
theorem ConfOk_law (c : Int × Int) : spec_ConfOk F0 c = some (confOk c, ()) := by
  rw [spec_ConfOk_eq, l1In_lawR, bnd, l1In_lawR, bnd]
  unfold confOk
  dsimp only
  cases inR 4 7 c.1 <;> rfl
theorem ConfOk_law2 (c : Int × Int) : impl_ConfOk F0 c = some (confOk c, ()) := by
  rw [impl_ConfOk_eq, within_law3, bnd, within_law3, bnd]
  unfold confOk
  dsimp only
  cases inR 4 7 c.1 <;> rfl
theorem confOk_n {c : Int × Int} (h : confOk c = true) : 4 ≤ c.1 ∧ c.1 ≤ 7 ∧ 1 ≤ c.2 ∧ c.2 ≤ 6 := by
  unfold confOk inR at h
  simp only [Bool.and_eq_true, decide_eq_true_eq] at h
  omega
theorem third {n : Int} (h1 : 4 ≤ n) (h2 : n ≤ 7) : 1 ≤ Int.tdiv (n - 1) 3 ∧ Int.tdiv (n - 1) 3 ≤ 2 := by
  have : n = 4 ∨ n = 5 ∨ n = 6 ∨ n = 7 := by omega
  rcases this with rfl | rfl | rfl | rfl <;> decide
def faults (c : Int × Int) : Int := if confOk c = true then Int.tdiv (c.1 - 1) 3 else 0
def quorum (c : Int × Int) : Int := if confOk c = true then c.1 - Int.tdiv (c.1 - 1) 3 else 0
theorem Faults_law2 (c : Int × Int) : impl_Faults F0 c = some (faults c, ()) := by
  rw [impl_Faults_eq, ConfOk_law2, bnd]
  unfold faults
  dsimp only
  cases h : confOk c with
  | false => rfl
  | true =>
    have := confOk_n h
    have h3 := third this.1 this.2.1
    have e : w64 (c.1 - 1) = c.1 - 1 := w64_in (by omega) (by omega)
    rw [Bool.not_true, br_false, e, w64_in (by omega) (by omega), if_pos rfl]
theorem Quorum_law2 (c : Int × Int) : impl_Quorum F0 c = some (quorum c, ()) := by
  rw [impl_Quorum_eq, ConfOk_law2, bnd, Faults_law2, bnd]
  unfold quorum faults
  dsimp only
  cases h : confOk c with
  | false => rfl
  | true =>
    have := confOk_n h
    have h3 := third this.1 this.2.1
    rw [Bool.not_true, br_false, if_pos rfl, if_pos rfl, w64_in (by omega) (by omega)]
theorem Quorum_law (c : Int × Int) : spec_Quorum F0 c = some (quorum c, ()) := by
  rw [spec_Quorum_eq, ConfOk_law, bnd]
  unfold quorum
  dsimp only
  cases h : confOk c with
  | false => rfl
  | true =>
    have := confOk_n h
    have h3 := third this.1 this.2.1
    have e : w64 (c.1 - 1) = c.1 - 1 := w64_in (by omega) (by omega)
    rw [Bool.not_true, br_false, e, w64_in (n := Int.tdiv (c.1 - 1) 3) (by omega) (by omega), w64_in (by omega) (by omega), if_pos rfl]
/-! ### Sets in order -/
def setOk (n : Int) (s : List Int) : Bool := (List.range s.length).all fun k => decide (0 ≤ s.getD k 0) && (decide (s.getD k 0 < n) && (decide (k = 0) || decide (s.getD (k - 1) 0 < s.getD k 0)))
theorem setOk_step {β : Type} {n : Int} {s : List Int} {k : Nat} (hk : k < s.length) (x y : Option β) :
    br (decide (s.getD k 0 < 0)) x (br (decide (s.getD k 0 ≥ n)) x (br (decide ((k : Int) > 0)) (br (decide (s.getD (k - 1) 0 ≥ s.getD k 0)) x y) y)) =
    if (decide (0 ≤ s.getD k 0) && (decide (s.getD k 0 < n) && (decide (k = 0) || decide (s.getD (k - 1) 0 < s.getD k 0)))) = true then y else x := by
  generalize s.getD k 0 = a
  generalize s.getD (k - 1) 0 = b
  by_cases h1 : a < 0
  · rw [decide_eq_true h1, br_true, decide_eq_false (show ¬ 0 ≤ a by omega)]
    rfl
  · rw [decide_eq_false h1, br_false, decide_eq_true (show 0 ≤ a by omega), Bool.true_and]
    by_cases h2 : a ≥ n
    · rw [decide_eq_true h2, br_true, decide_eq_false (show ¬ a < n by omega)]
      rfl
    · rw [decide_eq_false h2, br_false, decide_eq_true (show a < n by omega), Bool.true_and]
      by_cases h3 : k = 0
      · subst h3
        rfl
      · rw [decide_eq_true (show (k : Int) > 0 by omega), br_true, decide_eq_false h3, Bool.false_or]
        by_cases h4 : b ≥ a
        · rw [decide_eq_true h4, br_true, decide_eq_false (show ¬ b < a by omega)]
          rfl
        · rw [decide_eq_false h4, br_false, decide_eq_true (show b < a by omega)]
          rfl
theorem w64_pred {k : Nat} (h0 : 0 < k) (h : k ≤ 9223372036854775807) : w64 ((k : Int) - 1) = ((k - 1 : Nat) : Int) := by rw [w64_in (by omega) (by omega)]; omega
theorem SetOk_law {s : List Int} (h : s.length ≤ 1073741824) (n : Int) : spec_SetOk F0 n s = some (setOk n s, ()) := by
  rw [spec_SetOk_eq, all_to (fun m k => spec_SetOk_1 F0 (spec_SetOk_1_k F0) m (spec_SetOk_1_s n s k)) s.length (fun k => decide (0 ≤ s.getD k 0) && (decide (s.getD k 0 < n) && (decide (k = 0) || decide (s.getD (k - 1) 0 < s.getD k 0)))) (some (true, ())) (some (false, ())) (fun m k hk => ?_) (fun m => ?_) _ (by rw [n_eq]; omega)]
  · show (if setOk n s = true then _ else _) = _
    cases setOk n s <;> rfl
  · rw [spec_SetOk_1_step, dec_lt hk, br_true, okI_nat hk, ck_true, at_nat, spec_SetOk_1_cr, ck_true, w64_succ (by omega)]
    by_cases h0 : k = 0
    · subst h0
      rw [← setOk_step hk]
      rfl
    · rw [w64_pred (by omega) (by omega), okI_nat (show k - 1 < s.length by omega), ck_true, ck_true, at_nat, ← setOk_step hk]
  · rw [spec_SetOk_1_step, dec_nlt, br_false, spec_SetOk_1_ce0]
theorem SetOk_law2 {s : List Int} (h : s.length ≤ 1073741824) (n : Int) : impl_SetOk F0 n s = some (setOk n s, ()) := by
  rw [impl_SetOk_eq, all_to (fun m k => impl_SetOk_1 F0 (impl_SetOk_1_k F0) m (impl_SetOk_1_s n s s (s.length : Int) k)) s.length (fun k => decide (0 ≤ s.getD k 0) && (decide (s.getD k 0 < n) && (decide (k = 0) || decide (s.getD (k - 1) 0 < s.getD k 0)))) (some (true, ())) (some (false, ())) (fun m k hk => ?_) (fun m => ?_) _ (by rw [n_eq]; omega)]
  · show (if setOk n s = true then _ else _) = _
    cases setOk n s <;> rfl
  · rw [impl_SetOk_1_step, dec_lt hk, br_true, okI_nat hk, ck_true, at_nat, impl_SetOk_1_cr, w64_succ (by omega)]
    by_cases h0 : k = 0
    · subst h0
      rw [← setOk_step hk]
      rfl
    · rw [w64_pred (by omega) (by omega), okI_nat (show k - 1 < s.length by omega), ck_true, at_nat, ← setOk_step hk]
  · rw [impl_SetOk_1_step, dec_nlt, br_false, impl_SetOk_1_ce0]
/-! ### Certificates -/
theorem Equal_law {a b : List Int} (h : a.length ≤ 1073741824) : slices_Equal_int_int F0 a b = some (decide (a = b), ()) := by
  rw [slices_Equal_int_int_eq]
  by_cases hl : a.length = b.length
  · have e : ((a.length : Int) != (b.length : Int)) = false := by rw [hl]; exact bne_self_eq_false (b.length : Int)
    rw [e, br_false, all_to (fun m k => slices_Equal_int_int_1 F0 (slices_Equal_int_int_1_k F0) m (slices_Equal_int_int_1_s a b (a.length : Int) k)) a.length (fun k => a.getD k 0 == b.getD k 0) (some (true, ())) (some (false, ())) (fun m k hk => ?_) (fun m => ?_) _ (by rw [n_eq]; omega)]
    · by_cases hab : a = b
      · rw [decide_eq_true hab, if_pos (List.all_eq_true.2 fun k _ => by rw [hab]; exact beq_self_eq_true (b.getD k 0))]
      · rw [decide_eq_false hab, if_neg]
        intro hall
        refine hab (List.ext_getElem hl fun k h1 h2 => ?_)
        have := List.all_eq_true.1 hall k (List.mem_range.2 h1)
        simpa [List.getD, h1, h2] using this
    · rw [slices_Equal_int_int_1_step, dec_lt hk, br_true, okI_nat hk, ck_true, okI_nat (hl ▸ hk), ck_true, at_nat, at_nat, slices_Equal_int_int_1_cr, w64_succ (by omega), br_ite]
      by_cases h3 : a.getD k 0 = b.getD k 0
      · simp [h3]
      · simp [h3]
    · rw [slices_Equal_int_int_1_step, dec_nlt, br_false, slices_Equal_int_int_1_ce0]
  · have e : ((a.length : Int) != (b.length : Int)) = true := bne_iff_ne.2 (by omega)
    rw [e, br_true, decide_eq_false (fun hab => hl (by rw [hab]))]
def qcOk (c : Int × Int) (q : Int × List UInt8 × List Int) : Bool := confOk c && (nameOk q.2.1 && (decide (viewOf q.2.1 = q.1) && (if q.2.1 = [] then decide (q.2.2 = []) else setOk c.1 q.2.2 && decide ((q.2.2.length : Int) ≥ quorum c))))
theorem nil_tx : ByteArray.mk #[] = tx [] := rfl
theorem copyQc_law {q : QcD} (h : q.2.2.length ≤ 1073741824) : impl_copyQc F0 q = some (q, ()) := by
  rw [impl_copyQc_eq, copyInts_law h, bnd]
theorem QcSame_law {v v' : Int} {a b : List UInt8} {s t : List Int} (h : s.length ≤ 1073741824) : impl_QcSame F0 (v, tx a, s) (v', tx b, t) = some ((v == v') && (decide (a = b) && decide (s = t)), ()) := by
  rw [impl_QcSame_eq]
  dsimp only
  rw [tl_eq, Equal_law h, bnd]
  cases (v == v') <;> cases decide (a = b) <;> rfl
theorem QcOk_law {v : Int} {l : List UInt8} {s : List Int} (hl : l.length ≤ 1073741824) (hs : s.length ≤ 1073741824) (c : Int × Int) : spec_QcOk F0 c (v, tx l, s) = some (qcOk c (v, l, s), ()) := by
  rw [spec_QcOk_eq, ConfOk_law, bnd]
  unfold qcOk
  dsimp only
  rw [NameOk_law hl, bnd, ViewOf_law hl, bnd, SetOk_law hs, bnd, Quorum_law, bnd, nil_tx, tl_eq]
  cases confOk c with
  | false => rfl
  | true =>
    cases nameOk l with
    | false => rfl
    | true =>
      by_cases hv : viewOf l = v
      · rw [decide_eq_true hv, show (viewOf l != v) = false by rw [hv]; exact bne_self_eq_false v]
        by_cases h0 : l = []
        · rw [decide_eq_true h0, if_pos h0]
          cases s with
          | nil => rfl
          | cons x r => rfl
        · rw [decide_eq_false h0, if_neg h0]
          cases setOk c.1 s <;> rfl
      · rw [decide_eq_false hv, show (viewOf l != v) = true from bne_iff_ne.2 hv]
        rfl
theorem parts_one {c : UInt8} {l : List UInt8} (h : parts c l = [[]]) : l = [] := by
  cases l with
  | nil => rfl
  | cons x l =>
    unfold parts at h
    split at h
    · exact absurd (List.cons.inj h).2 (parts_ne c l)
    · split at h
      · cases (List.cons.inj h).1
      · cases (List.cons.inj h).1
theorem allF_inv {σ β : Type} {f : σ → List UInt8 → Option (σ × β)} {I : σ → Prop} {Q : β → Prop} (hf : ∀ s p s' b, I s → f s p = some (s', b) → Q b ∧ I s') : ∀ {l : List (List UInt8)} {s : σ} {r : List β}, I s → allF f s l = some r → ∀ b ∈ r, Q b
  | [], s, r, _, h, b, hb => by
    cases h
    cases hb
  | p :: l, s, r, hI, h, b, hb => by
    unfold allF at h
    cases hp : f s p with
    | none => rw [hp] at h; cases h
    | some x =>
      obtain ⟨s', b'⟩ := x
      rw [hp] at h
      obtain ⟨h1, h2⟩ := hf s p s' b' hI hp
      dsimp only at h
      cases hr : allF f s' l with
      | none => rw [hr] at h; cases h
      | some r' =>
        rw [hr] at h
        cases h
        rcases List.mem_cons.1 hb with rfl | hb
        · exact h1
        · exact allF_inv hf h2 hr b hb
theorem stepsOf_view {l : List UInt8} : ∀ s ∈ (stepsOf l).1, 1 ≤ s.1 := by
  unfold stepsOf
  split
  · simp
  · split
    · simp
    · split
      · simp
      · split
        · simp
        · rename_i hr
          refine allF_inv (I := fun s => 0 ≤ s) (Q := fun b => 1 ≤ b.1) (fun s p s' b hs hf => ?_) (by omega) hr
          obtain ⟨h1, h2⟩ := stepF_ok hf
          unfold stepF at hf
          split at hf
          · rename_i hc
            cases hf
            exact ⟨by have := hc.2.2.2.1; show 1 ≤ _; omega, by have := hc.2.2.2.1; omega⟩
          · cases hf
theorem stepsOf_ne {l : List UInt8} (h : nameOk l = true) (h0 : l ≠ []) : (stepsOf l).1 ≠ [] := by
  unfold nameOk at h
  unfold stepsOf at h ⊢
  rw [if_neg h0] at h ⊢
  cases hp : parts 47 l with
  | nil => rw [hp] at h; cases h
  | cons p0 ps =>
    rw [hp] at h
    dsimp only at h ⊢
    split
    · rename_i h1
      rw [if_pos h1] at h
      cases h
    · rename_i h1
      rw [if_neg h1] at h
      have hp0 : p0 = [] := Classical.byContradiction fun hne => h1 (.inl hne)
      cases hr : allF stepF 0 ps with
      | none => rw [hr] at h; cases h
      | some r =>
        dsimp only
        intro hr0
        have hl := allF_len hr
        rw [hr0] at hl
        have : ps = [] := List.eq_nil_of_length_eq_zero hl.symm
        subst this hp0
        exact h0 (parts_one hp)
theorem viewOf_pos {l : List UInt8} (h : nameOk l = true) (h0 : l ≠ []) : 1 ≤ viewOf l := by
  have hne := stepsOf_ne h h0
  unfold viewOf
  cases hs : (stepsOf l).1.getLast? with
  | none => exact absurd (List.getLast?_eq_none_iff.1 hs) hne
  | some s => exact stepsOf_view s (List.mem_of_getLast? hs)
theorem viewOf_nil : viewOf [] = 0 := rfl
theorem nameOk_nil : nameOk [] = true := rfl
/-- The program's own word for a right certificate is the reference's. -/
theorem qcOk_alt (c : Int × Int) (v : Int) (l : List UInt8) (s : List Int) :
    (confOk c && (((v == 0) && (decide (l = []) && decide (s = []))) || (decide (v ≥ 1) && (nameOk l && ((v == viewOf l) && (setOk c.1 s && decide ((s.length : Int) ≥ quorum c))))))) = qcOk c (v, l, s) := by
  unfold qcOk
  dsimp only
  cases hc : confOk c with
  | false => rfl
  | true =>
    rw [Bool.true_and, Bool.true_and]
    by_cases h0 : l = []
    · subst h0
      rw [viewOf_nil, nameOk_nil, if_pos rfl, decide_eq_true rfl, Bool.true_and, Bool.true_and, Bool.true_and]
      by_cases hv : v = 0
      · subst hv
        rw [beq_self_eq_true, decide_eq_true rfl, decide_eq_false (show ¬ (0 : Int) ≥ 1 by omega), Bool.false_and, Bool.or_false]
      · rw [beq_eq_false_iff_ne.2 hv, decide_eq_false (show ¬ (0 : Int) = v from fun h => hv h.symm)]
        simp
    · rw [decide_eq_false h0, Bool.false_and, Bool.and_false, Bool.false_or, if_neg h0]
      cases hn : nameOk l with
      | false => rw [Bool.false_and, Bool.false_and, Bool.and_false]
      | true =>
        have := viewOf_pos hn h0
        by_cases hv : v = viewOf l
        · rw [decide_eq_true (show v ≥ 1 by omega), beq_iff_eq.2 hv, decide_eq_true hv.symm]
          rfl
        · rw [beq_eq_false_iff_ne.2 hv, decide_eq_false (show ¬ viewOf l = v from fun h => hv h.symm)]
          simp
theorem QcOk_law2 {v : Int} {l : List UInt8} {s : List Int} (hl : l.length ≤ 1073741824) (hs : s.length ≤ 1073741824) (c : Int × Int) : impl_QcOk F0 c (v, tx l, s) = some (qcOk c (v, l, s), ()) := by
  rw [← qcOk_alt, impl_QcOk_eq, ConfOk_law2, bnd, impl_QcFirst_eq, bnd]
  dsimp only
  rw [nil_tx, QcSame_law hs, bnd, NameOk_law2 hl, bnd, ViewOf_law2 hl, bnd, SetOk_law2 hs, bnd, Quorum_law2, bnd]
  dsimp only
  generalize nameOk l = b1
  generalize viewOf l = b2
  generalize setOk c.1 s = b3
  generalize decide ((s.length : Int) ≥ quorum c) = b4
  generalize decide (v ≥ 1) = b5
  generalize ((v == 0) && (decide (l = []) && decide (s = []))) = b6
  generalize (v == b2) = b7
  cases confOk c <;> cases b1 <;> cases b3 <;> cases b4 <;> cases b5 <;> cases b6 <;> cases b7 <;> rfl
/-! ### Parts -/
def partQc (c : Int × Int) (p : Int × List UInt8 × List Int) : Option (Int × List UInt8 × List Int) := if p.2.1 ≠ [] ∧ qcOk c p = true then some p else none
def qcOut (o : Option (Int × List UInt8 × List Int)) : QcD × Bool := match o with
  | some q => ((q.1, tx q.2.1, q.2.2), true)
  | none => ((0, tx [], []), false)
theorem PartQc_law {v : Int} {l : List UInt8} {s : List Int} (hl : l.length ≤ 1073741824) (hs : s.length ≤ 1073741824) (c : Int × Int) : spec_PartQc F0 c (v, tx l, s) = some ((qcOut (partQc c (v, l, s))).1, (qcOut (partQc c (v, l, s))).2, ()) := by
  rw [spec_PartQc_eq]
  dsimp only
  rw [okA_le (by omega) (by omega) (by omega), ck_true, nil_tx, tl_eq, List.nil_append, QcOk_law hl hs, bnd]
  unfold partQc
  dsimp only
  by_cases h0 : l = []
  · rw [decide_eq_true h0, br_true, if_neg (fun h => h.1 h0)]
    rfl
  · rw [decide_eq_false h0, br_false]
    cases hq : qcOk c (v, l, s) with
    | true => rw [if_pos ⟨h0, rfl⟩]; rfl
    | false => rw [if_neg (fun h => by cases h.2)]; rfl
theorem qcOk_view {c : Int × Int} {v : Int} {l : List UInt8} {s : List Int} (h : qcOk c (v, l, s) = true) : (v == 0) = decide (l = []) := by
  unfold qcOk at h
  simp only [Bool.and_eq_true, decide_eq_true_eq] at h
  obtain ⟨_, h1, h2, _⟩ := h
  by_cases h0 : l = []
  · subst h0
    rw [← h2]
    rfl
  · have := viewOf_pos h1 h0
    rw [decide_eq_false h0]
    exact beq_eq_false_iff_ne.2 (by omega)
theorem PartQc_law2 {v : Int} {l : List UInt8} {s : List Int} (hl : l.length ≤ 1073741824) (hs : s.length ≤ 1073741824) (c : Int × Int) : impl_PartQc F0 c (v, tx l, s) = some ((qcOut (partQc c (v, l, s))).1, (qcOut (partQc c (v, l, s))).2, ()) := by
  rw [impl_PartQc_eq, copyQc_law (q := (v, tx l, s)) hs, bnd]
  dsimp only
  rw [QcOk_law2 hl hs, bnd]
  unfold partQc
  dsimp only
  cases hq : qcOk c (v, l, s) with
  | false => rw [if_neg (fun h => by cases h.2)]; rfl
  | true =>
    rw [Bool.not_true, br_false, qcOk_view hq]
    by_cases h0 : l = []
    · rw [decide_eq_true h0, br_true, if_neg (fun h => h.1 h0)]
      rfl
    · rw [decide_eq_false h0, br_false, if_pos ⟨h0, rfl⟩]
      rfl
end Go.Am.Tryz
set_option linter.unusedVariables false
set_option linter.unusedSimpArgs false
namespace Go.Am.Tryz
open Go.Am
/-! ### Marks -/
theorem qcOut_len {o : Option (Int × List UInt8 × List Int)} {n : Nat} (h : ∀ q, o = some q → q.2.2.length ≤ n) : (qcOut o).1.2.2.length ≤ n := by
  unfold qcOut
  split
  · exact h _ rfl
  · simp
end Go.Am.Tryz
set_option linter.unusedVariables false
set_option linter.unusedSimpArgs false
namespace Go.Am.Tryz
open Go.Am
/-! ### Seats -/
def rootOf (c : Int × Int) (view : Int) : Int := if confOk c = true ∧ 0 ≤ view then view % c.1 else -1
def sitsOf (c : Int × Int) (view s : Int) : Int := if confOk c = true ∧ 0 ≤ view ∧ 0 ≤ s ∧ s ≤ c.1 - 1 then (view % c.1 + s) % c.1 else -1
def seatOf (c : Int × Int) (view i : Int) : Int := if confOk c = true ∧ 0 ≤ view ∧ 0 ≤ i ∧ i ≤ c.1 - 1 then (i + c.1 - view % c.1) % c.1 else -1
def upOf (c : Int × Int) (view i : Int) : Int := if seatOf c view i ≤ 0 then -1 else sitsOf c view ((seatOf c view i - 1) / c.2)
theorem tmod_pos {a b : Int} (h : 0 ≤ a) : Int.tmod a b = a % b := Int.tmod_eq_emod_of_nonneg h
theorem ne0 {n : Int} (h : 4 ≤ n) : (!(n == 0)) = true := by rw [beq_eq_false_iff_ne.2 (show n ≠ 0 by omega)]; rfl
theorem inR_iff {lo hi x : Int} : inR lo hi x = decide (lo ≤ x ∧ x ≤ hi) := by
  unfold inR
  by_cases h1 : lo ≤ x <;> by_cases h2 : x ≤ hi <;> simp [h1, h2]
theorem mod_in {n : Int} (h1 : 4 ≤ n) (view : Int) : 0 ≤ view % n ∧ view % n < n := ⟨Int.emod_nonneg _ (by omega), Int.emod_lt_of_pos _ (by omega)⟩
theorem Root_law2 (c : Int × Int) (view : Int) : impl_Root F0 c view = some (rootOf c view, ()) := by
  rw [impl_Root_eq, ConfOk_law2, bnd]
  unfold rootOf
  cases hc : confOk c with
  | false => rfl
  | true =>
    have hn := confOk_n hc
    by_cases hv : view < 0
    · rw [decide_eq_true hv, if_neg (fun h => by omega)]
      rfl
    · rw [decide_eq_false hv, Bool.not_true, br_false, br_false, ne0 hn.1, ck_true, if_pos ⟨rfl, by omega⟩, tmod_pos (by omega)]
theorem w64_n1 {n : Int} (h1 : 4 ≤ n) (h2 : n ≤ 7) : w64 (n - 1) = n - 1 := w64_in (by omega) (by omega)
theorem Sits_law (c : Int × Int) (view s : Int) : spec_Sits F0 c view s = some (sitsOf c view s, ()) := by
  rw [spec_Sits_eq, ConfOk_law, bnd]
  unfold sitsOf
  cases hc : confOk c with
  | false => rfl
  | true =>
    have hn := confOk_n hc
    have hm := mod_in hn.1 view
    by_cases hv : view < 0
    · rw [decide_eq_true hv, if_neg (fun h => by omega)]
      rfl
    · rw [decide_eq_false hv, Bool.not_true, br_false, br_false, l1In_lawR, bnd, w64_n1 hn.1 hn.2.1, inR_iff]
      by_cases hs : 0 ≤ s ∧ s ≤ c.1 - 1
      · rw [decide_eq_true hs, Bool.not_true, br_false, ne0 hn.1, ck_true, ck_true, if_pos ⟨rfl, by omega, hs.1, hs.2⟩, tmod_pos (a := view) (by omega), w64_in (by omega) (by omega), tmod_pos (by omega)]
      · rw [decide_eq_false hs, if_neg (fun h => hs ⟨h.2.2.1, h.2.2.2⟩)]
        rfl
theorem Sits_law2 (c : Int × Int) (view s : Int) : impl_Sits F0 c view s = some (sitsOf c view s, ()) := by
  rw [impl_Sits_eq, ConfOk_law2, bnd]
  unfold sitsOf
  cases hc : confOk c with
  | false => rfl
  | true =>
    have hn := confOk_n hc
    have hm := mod_in hn.1 view
    by_cases hv : view < 0
    · rw [decide_eq_true hv, if_neg (fun h => by omega)]
      rfl
    · rw [decide_eq_false hv, Bool.not_true, br_false, br_false, within_law3, bnd, w64_n1 hn.1 hn.2.1, inR_iff]
      by_cases hs : 0 ≤ s ∧ s ≤ c.1 - 1
      · rw [decide_eq_true hs, Bool.not_true, br_false, ne0 hn.1, ck_true, ck_true, if_pos ⟨rfl, by omega, hs.1, hs.2⟩, tmod_pos (a := view) (by omega), w64_in (by omega) (by omega), tmod_pos (by omega)]
      · rw [decide_eq_false hs, if_neg (fun h => hs ⟨h.2.2.1, h.2.2.2⟩)]
        rfl
theorem Seat_law (c : Int × Int) (view i : Int) : spec_Seat F0 c view i = some (seatOf c view i, ()) := by
  rw [spec_Seat_eq, ConfOk_law, bnd]
  unfold seatOf
  cases hc : confOk c with
  | false => rfl
  | true =>
    have hn := confOk_n hc
    have hm := mod_in hn.1 view
    by_cases hv : view < 0
    · rw [decide_eq_true hv, if_neg (fun h => by omega)]
      rfl
    · rw [decide_eq_false hv, Bool.not_true, br_false, br_false, l1In_lawR, bnd, w64_n1 hn.1 hn.2.1, inR_iff]
      by_cases hs : 0 ≤ i ∧ i ≤ c.1 - 1
      · rw [decide_eq_true hs, Bool.not_true, br_false, ne0 hn.1, ck_true, ck_true, if_pos ⟨rfl, by omega, hs.1, hs.2⟩, tmod_pos (a := view) (by omega), w64_in (n := i + c.1) (by omega) (by omega), w64_in (by omega) (by omega), tmod_pos (by omega)]
      · rw [decide_eq_false hs, if_neg (fun h => hs ⟨h.2.2.1, h.2.2.2⟩)]
        rfl
theorem Seat_law2 (c : Int × Int) (view i : Int) : impl_Seat F0 c view i = some (seatOf c view i, ()) := by
  rw [impl_Seat_eq, ConfOk_law2, bnd]
  unfold seatOf
  cases hc : confOk c with
  | false => rfl
  | true =>
    have hn := confOk_n hc
    have hm := mod_in hn.1 view
    by_cases hv : view < 0
    · rw [decide_eq_true hv, if_neg (fun h => by omega)]
      rfl
    · rw [decide_eq_false hv, Bool.not_true, br_false, br_false, within_law3, bnd, w64_n1 hn.1 hn.2.1, inR_iff]
      by_cases hs : 0 ≤ i ∧ i ≤ c.1 - 1
      · rw [decide_eq_true hs, Bool.not_true, br_false, ne0 hn.1, ck_true, ck_true, if_pos ⟨rfl, by omega, hs.1, hs.2⟩, tmod_pos (a := view) (by omega), w64_in (n := i - view % c.1) (by omega) (by omega), w64_in (by omega) (by omega), tmod_pos (by omega),
          show i - view % c.1 + c.1 = i + c.1 - view % c.1 by omega]
      · rw [decide_eq_false hs, if_neg (fun h => hs ⟨h.2.2.1, h.2.2.2⟩)]
        rfl
theorem seatOf_in (c : Int × Int) (view i : Int) : -1 ≤ seatOf c view i ∧ seatOf c view i ≤ 6 := by
  unfold seatOf
  split
  · rename_i h
    have hn := confOk_n h.1
    have h1 := Int.emod_nonneg (i + c.1 - view % c.1) (show c.1 ≠ 0 by omega)
    have h2 := Int.emod_lt_of_pos (i + c.1 - view % c.1) (show 0 < c.1 by omega)
    omega
  · omega
theorem seatOf_conf {c : Int × Int} {view i : Int} (h : 0 ≤ seatOf c view i) : confOk c = true := by
  unfold seatOf at h
  split at h
  · rename_i hh; exact hh.1
  · omega
theorem div_in {a b : Int} (h1 : 0 ≤ a) (h2 : a ≤ 6) (h3 : 1 ≤ b) : 0 ≤ a / b ∧ a / b ≤ 6 := ⟨Int.ediv_nonneg h1 (by omega), Int.le_trans (Int.ediv_le_self b h1) h2⟩
theorem Up_law (c : Int × Int) (view i : Int) : spec_Up F0 c view i = some (upOf c view i, ()) := by
  rw [spec_Up_eq, Seat_law, bnd]
  unfold upOf
  have hs := seatOf_in c view i
  by_cases h0 : seatOf c view i ≤ 0
  · rw [decide_eq_true (show (seatOf c view i, ()).1 ≤ 0 from h0), br_true, if_pos h0]
  · have hn := confOk_n (seatOf_conf (c := c) (view := view) (i := i) (by omega))
    have hd := div_in (a := seatOf c view i - 1) (b := c.2) (by omega) (by omega) hn.2.2.1
    rw [decide_eq_false (show ¬ (seatOf c view i, ()).1 ≤ 0 from h0), br_false, if_neg h0, show (!(c.2 == 0)) = true by rw [beq_eq_false_iff_ne.2 (show c.2 ≠ 0 by omega)]; rfl, ck_true]
    dsimp only
    rw [w64_in (n := seatOf c view i - 1) (by omega) (by omega), Int.tdiv_eq_ediv_of_nonneg (show 0 ≤ seatOf c view i - 1 by omega), w64_in (by omega) (by omega), Sits_law, bnd]
theorem Up_law2 (c : Int × Int) (view i : Int) : impl_Up F0 c view i = some (upOf c view i, ()) := by
  rw [impl_Up_eq, Seat_law2, bnd]
  unfold upOf
  have hs := seatOf_in c view i
  by_cases h0 : seatOf c view i ≤ 0
  · rw [decide_eq_true (show (seatOf c view i, ()).1 < 1 by show seatOf c view i < 1; omega), br_true, if_pos h0]
  · have hn := confOk_n (seatOf_conf (c := c) (view := view) (i := i) (by omega))
    have hd := div_in (a := seatOf c view i - 1) (b := c.2) (by omega) (by omega) hn.2.2.1
    rw [decide_eq_false (show ¬ (seatOf c view i, ()).1 < 1 by show ¬ seatOf c view i < 1; omega), br_false, if_neg h0, show (!(c.2 == 0)) = true by rw [beq_eq_false_iff_ne.2 (show c.2 ≠ 0 by omega)]; rfl, ck_true]
    dsimp only
    rw [w64_in (n := seatOf c view i - 1) (by omega) (by omega), Int.tdiv_eq_ediv_of_nonneg (show 0 ≤ seatOf c view i - 1 by omega), w64_in (by omega) (by omega), Sits_law2, bnd]
theorem sitsOf_in {c : Int × Int} {view s : Int} (h : sitsOf c view s ≠ -1) : confOk c = true ∧ 0 ≤ sitsOf c view s ∧ sitsOf c view s < c.1 := by
  unfold sitsOf at h ⊢
  split
  · rename_i hc
    have hn := confOk_n hc.1
    exact ⟨hc.1, Int.emod_nonneg _ (by omega), Int.emod_lt_of_pos _ (by omega)⟩
  · rename_i hc
    rw [if_neg hc] at h
    exact absurd rfl h
theorem upOf_in {c : Int × Int} {view i : Int} (h : 0 ≤ upOf c view i) : upOf c view i < c.1 := by
  unfold upOf at h ⊢
  split
  · rename_i h0
    rw [if_pos h0] at h
    omega
  · rename_i h0
    rw [if_neg h0] at h
    exact (sitsOf_in (by omega)).2.2
end Go.Am.Tryz
set_option linter.unusedVariables false
set_option linter.unusedSimpArgs false
namespace Go.Am.Tryz
open Go.Am
abbrev CurD := List Int × Int × Int
/-- A cursor over bytes. -/
def Cur (c : CurD) : Prop := c.1.length ≤ 1048576 ∧ 0 ≤ c.2.1 ∧ c.2.1 ≤ 1048576
theorem and255 (n : Int) : 0 ≤ w64 ((BitVec.ofInt 64 n &&& BitVec.ofInt 64 255).toNat : Int) ∧ w64 ((BitVec.ofInt 64 n &&& BitVec.ofInt 64 255).toNat : Int) ≤ 255 := by
  have h : (BitVec.ofInt 64 n &&& BitVec.ofInt 64 255).toNat ≤ 255 := by
    rw [BitVec.toNat_and]
    exact Nat.le_trans Nat.and_le_right (by decide)
  rw [w64_in (by omega) (by omega)]
  omega
theorem Byte_ok {c : CurD} (h : Cur c) : ∃ (v : Int) (c' : CurD), spec_l1Byte F0 c = some ((v, ()), (c', ())) ∧ 0 ≤ v ∧ v ≤ 255 ∧ Cur c' := by
  rw [spec_l1Byte_eq]
  by_cases hlt : c.2.1 < (c.1.length : Int)
  · rw [decide_eq_true hlt, br_true, show okI c.2.1 (c.1.length : Int) = true by simp [okI]; exact ⟨h.2.1, hlt⟩, ck_true]
    have hl := h.1
    have h0 := h.2.1
    refine ⟨_, _, rfl, (and255 _).1, (and255 _).2, h.1, ?_, ?_⟩
    · show 0 ≤ w64 (c.2.1 + 1)
      rw [w64_in (by omega) (by omega)]
      omega
    · show w64 (c.2.1 + 1) ≤ 1048576
      rw [w64_in (by omega) (by omega)]
      omega
  · rw [decide_eq_false hlt, br_false]
    exact ⟨_, _, rfl, (and255 _).1, (and255 _).2, h⟩
theorem tmod_in {a n : Int} (h0 : 0 ≤ a) (hn : 0 < n) : 0 ≤ Int.tmod a n ∧ Int.tmod a n < n := by
  rw [Int.tmod_eq_emod_of_nonneg h0]
  exact ⟨Int.emod_nonneg _ (by omega), Int.emod_lt_of_pos _ hn⟩
theorem Below_ok {c : CurD} (h : Cur c) {n : Int} (hn : 0 < n) (hn2 : n ≤ 256) : ∃ (v : Int) (c' : CurD), spec_l1Below F0 c n = some ((v, ()), (c', ())) ∧ 0 ≤ v ∧ v < n ∧ Cur c' := by
  obtain ⟨v, c', h1, h2, h3, h4⟩ := Byte_ok h
  rw [spec_l1Below_eq, decide_eq_false (show ¬ n ≤ 0 by omega), br_false, decide_eq_true hn2, br_true, h1, bnd, show (!(n == 0)) = true by rw [beq_eq_false_iff_ne.2 (show n ≠ 0 by omega)]; rfl, ck_true]
  exact ⟨_, _, rfl, (tmod_in h2 hn).1, (tmod_in h2 hn).2, h4⟩
theorem PickInt_ok {c : CurD} (h : Cur c) {l : List Int} (hn : 0 < l.length) (hn2 : l.length ≤ 256) : ∃ (v : Int) (c' : CurD), spec_l1PickInt F0 c l = some ((v, ()), (c', ())) ∧ v ∈ l ∧ Cur c' := by
  obtain ⟨v, c', h1, h2, h3, h4⟩ := Below_ok h (n := (l.length : Int)) (by omega) (by omega)
  have hv : v.toNat < l.length := by omega
  rw [spec_l1PickInt_eq, h1, bnd, show okI v (l.length : Int) = true by simp [okI]; exact ⟨h2, h3⟩, ck_true]
  refine ⟨_, _, rfl, ?_, h4⟩
  have e : v = (v.toNat : Int) := by omega
  show at_ l v 0 ∈ l
  rw [e, at_isD hv]
  exact List.getElem_mem hv
theorem Once_ok {c : CurD} (h : Cur c) {n : Int} (hn : 0 < n) (hn2 : n ≤ 256) : ∃ (v : Bool) (c' : CurD), spec_l1Once F0 c n = some ((v, ()), (c', ())) ∧ Cur c' := by
  obtain ⟨v, c', h1, h2, h3, h4⟩ := Below_ok h hn hn2
  rw [spec_l1Once_eq, h1, bnd]
  exact ⟨_, _, rfl, h4⟩
theorem New_ok {code : List Int} (h : code.length ≤ 1048576) : ∃ c' : CurD, spec_l1New F0 code = some (((c', ()), ())) ∧ Cur c' := by
  rw [spec_l1New_eq]
  suffices hh : ∀ (j : Nat) (q : Int) (k n : Nat), k + j = code.length → j < n → ∃ q' : Int, spec_l1New_1 F0 (spec_l1New_1_k F0) n (spec_l1New_1_s code q (k : Int) code) = some ((((code, (0, q')) : CurD), ()), ()) by
    obtain ⟨q', e⟩ := hh code.length (w64 (26583 + (code.length : Int))) 0 F0.n (Nat.zero_add _) (by rw [n_eq]; omega)
    exact ⟨_, e, h, Int.le_refl _, by show (0 : Int) ≤ 1048576; decide⟩
  intro j
  induction j with
  | zero =>
    intro q k n hk hn
    obtain ⟨n, rfl⟩ : ∃ m, n = m + 1 := ⟨n - 1, by omega⟩
    obtain rfl : k = code.length := by omega
    rw [spec_l1New_1_step, dec_nlt, br_false, spec_l1New_1_ce0]
    exact ⟨q, rfl⟩
  | succ j ih =>
    intro q k n hk hn
    obtain ⟨n, rfl⟩ : ∃ m, n = m + 1 := ⟨n - 1, by omega⟩
    have hlt : k < code.length := by omega
    rw [spec_l1New_1_step, dec_lt hlt, br_true]
    cases decide ((k : Int) < 4000) with
    | false =>
      rw [br_false, spec_l1New_1_ce0]
      exact ⟨q, rfl⟩
    | true =>
      rw [br_true, okI_nat hlt, ck_true, w64_succ (by omega)]
      exact ih _ (k + 1) n (by omega) (by omega)
theorem DrawConf_ok {c : CurD} (h : Cur c) : ∃ (v : Int × Int) (c' : CurD), spec_l7DrawConf F0 c = some ((v, ()), (c', ())) ∧ Cur c' := by
  obtain ⟨v1, c1, e1, _, _, h1⟩ := Below_ok h (n := 4) (by omega) (by omega)
  obtain ⟨v2, c2, e2, _, _, h2⟩ := Below_ok h1 (n := 3) (by omega) (by omega)
  rw [spec_l7DrawConf_eq, e1, bnd, e2, bnd]
  exact ⟨_, _, rfl, h2⟩
theorem DrawBent_ok {c : CurD} (h : Cur c) : ∃ (v : Int × Int) (c' : CurD), spec_l7DrawBent F0 c = some ((v, ()), (c', ())) ∧ Cur c' := by
  obtain ⟨v1, c1, e1, h1⟩ := DrawConf_ok h
  obtain ⟨v2, c2, e2, _, _, h2⟩ := Below_ok h1 (n := 12) (by omega) (by omega)
  obtain ⟨v3, c3, e3, _, h3⟩ := PickInt_ok h2 (l := [0, 3, 8, -1]) (by decide) (by decide)
  obtain ⟨v4, c4, e4, _, h4⟩ := PickInt_ok h2 (l := [0, 6, 7]) (by decide) (by decide)
  rw [spec_l7DrawBent_eq, e1, bnd, e2, bnd, e3, bnd, e4, bnd]
  dsimp only
  cases (v2 == 0) with
  | true => exact ⟨_, _, rfl, h3⟩
  | false =>
    cases (v2 == 1) with
    | true => exact ⟨_, _, rfl, h4⟩
    | false => exact ⟨_, _, rfl, h2⟩
theorem DrawSet_ok {c : CurD} (h : Cur c) {m : Int} (hm : 0 < m) (hm2 : m ≤ 256) : ∃ (v : List Int) (c' : CurD), spec_l6DrawSet F0 c m = some ((v, ()), (c', ())) ∧ v.length ≤ 9 ∧ Cur c' := by
  rw [spec_l6DrawSet_eq]
  suffices hh : ∀ (j k : Nat) (c : CurD) (xs : List Int) (n : Nat), k + j = 8 → Cur c → xs.length ≤ k → j < n → ∃ (v : List Int) (c' : CurD), spec_l6DrawSet_1 F0 (spec_l6DrawSet_1_k F0) n (spec_l6DrawSet_1_s m (k : Int) c.1 c.2.1 c.2.2 xs) = some ((v, ()), ((c' : CurD), ())) ∧ v.length ≤ 9 ∧ Cur c' by
    exact hh 8 0 c [] F0.n rfl h (Nat.le_refl _) (by rw [n_eq]; omega)
  intro j
  induction j with
  | zero =>
    intro k c xs n hk hc hx hn
    obtain ⟨n, rfl⟩ : ∃ q, n = q + 1 := ⟨n - 1, by omega⟩
    obtain ⟨v1, c1, e1, l1, g1, h1⟩ := Below_ok hc (n := 8) (by omega) (by omega)
    obtain ⟨v2, c2, e2, h2⟩ := Once_ok h1 (n := 12) (by omega) (by omega)
    obtain ⟨v3, c3, e3, _, h3⟩ := PickInt_ok h2 (l := [-1, 0, 3, 9]) (by decide) (by decide)
    rw [spec_l6DrawSet_1_step, show ((c.1, (c.2.1, c.2.2)) : CurD) = c from rfl, e1, bnd]
    dsimp only
    rw [decide_eq_false (by omega), br_false, spec_l6DrawSet_1_ce0, show ((c1.1, (c1.2.1, c1.2.2)) : CurD) = c1 from rfl, e2, bnd]
    dsimp only
    rw [e3, bnd, okA_le (by omega) (by omega) (by rw [List.length_singleton]; omega), ck_true]
    cases v2 with
    | true => exact ⟨_, _, rfl, by rw [List.length_append, List.length_singleton]; omega, h3⟩
    | false => exact ⟨_, _, rfl, by omega, h2⟩
  | succ j ih =>
    intro k c xs n hk hc hx hn
    obtain ⟨n, rfl⟩ : ∃ q, n = q + 1 := ⟨n - 1, by omega⟩
    obtain ⟨v1, c1, e1, l1, g1, h1⟩ := Below_ok hc (n := 8) (by omega) (by omega)
    obtain ⟨v2, c2, e2, h2⟩ := Once_ok h1 (n := 12) (by omega) (by omega)
    obtain ⟨v3, c3, e3, _, h3⟩ := PickInt_ok h2 (l := [-1, 0, 3, 9]) (by decide) (by decide)
    obtain ⟨v4, c4, e4, l4, g4, h4⟩ := Below_ok h1 (n := m) hm hm2
    have hs := setA_len xs v4
    rw [spec_l6DrawSet_1_step, show ((c.1, (c.2.1, c.2.2)) : CurD) = c from rfl, e1, bnd]
    dsimp only
    by_cases hv : (k : Int) < v1
    · rw [decide_eq_true hv, br_true, e4, bnd]
      dsimp only
      rw [SetAdd_law (by omega), bnd, w64_succ (by omega)]
      exact ih (k + 1) c4 (setA xs v4) n (by omega) h4 (by omega) (by omega)
    · rw [decide_eq_false hv, br_false, spec_l6DrawSet_1_ce0, show ((c1.1, (c1.2.1, c1.2.2)) : CurD) = c1 from rfl, e2, bnd]
      dsimp only
      rw [e3, bnd, okA_le (by omega) (by omega) (by rw [List.length_singleton]; omega), ck_true]
      cases v2 with
      | true => exact ⟨_, _, rfl, by rw [List.length_append, List.length_singleton]; omega, h3⟩
      | false => exact ⟨_, _, rfl, by omega, h2⟩
end Go.Am.Tryz
set_option linter.unusedVariables false
set_option linter.unusedSimpArgs false
namespace Go.Am.Tryz
open Go.Am
def txsJoin (l : List TxD) : List UInt8 := Lib.join (l.map txL) [44]
def txsText (l : List TxD) : List UInt8 := if l.all txOk = true then txsJoin l else []
theorem txL_all {l : List TxD} (h : l.all txOk = true) : ∀ x ∈ l.map txL, x.length ≤ 90 := by
  intro x hx
  obtain ⟨y, hy, rfl⟩ := List.mem_map.1 hx
  exact txL_le (List.all_eq_true.1 h y hy)
theorem txsJoin_le {l : List TxD} (h : l.all txOk = true) : (txsJoin l).length ≤ 91 * l.length := by
  have := join_le (txL_all h) 44
  rw [List.length_map] at this
  exact this
theorem all_take {l : List TxD} {k : Nat} (hk : k < l.length) : (l.take (k + 1)).all txOk = ((l.take k).all txOk && txOk l[k]) := by
  rw [List.take_add_one, List.getElem?_eq_getElem hk, List.all_append]
  simp
theorem map_take_succ {α β : Type} {l : List α} {f : α → β} {k : Nat} (hk : k < l.length) : (l.take (k + 1)).map f = (l.take k).map f ++ [f l[k]] := by
  rw [List.take_add_one, List.getElem?_eq_getElem hk, List.map_append]
  rfl
theorem all_false_at {l : List TxD} {k : Nat} (hk : k < l.length) (h : txOk l[k] = false) : l.all txOk = false := by
  rw [List.all_eq_false]
  exact ⟨l[k], List.getElem_mem hk, by simp [h]⟩
theorem txText_ok {x : TxD} (h : txOk x = true) : txText x = txL x := if_pos h
theorem TxsText_law {l : List TxD} (h : l.length ≤ 1048576) : spec_TxsText F0 l = some (tx (txsText l), ()) := by
  rw [spec_TxsText_eq]
  refine loop_to (fun n i (out : ByteArray) => spec_TxsText_1 F0 (spec_TxsText_1_k F0) n (spec_TxsText_1_s l out i)) l.length (fun k out => (l.take k).all txOk = true ∧ out = tx (txsJoin (l.take k))) _ (fun n k out hk ho => ?_) (fun n out ho => ?_) _ 0 _ (Nat.zero_le _) ⟨rfl, rfl⟩ (by rw [n_eq]; omega)
  · obtain ⟨ha, rfl⟩ := ho
    have hj := txsJoin_le ha
    rw [List.length_take, Nat.min_eq_left (by omega)] at hj
    rw [spec_TxsText_1_step, dec_lt hk, br_true, okI_nat hk, ck_true, at_is hk, TxOk_law, bnd, spec_TxsText_1_cr]
    dsimp only
    cases hx : txOk l[k] with
    | false =>
      left
      rw [Bool.not_false, br_true, txsText, all_false_at hk hx]
      rfl
    | true =>
      right
      have hl := txL_le hx
      refine ⟨tx (txsJoin (l.take (k + 1))), ?_, by rw [all_take hk, ha, hx]; rfl, rfl⟩
      rw [Bool.not_true, br_false, ck_true, ck_true, TxText_law, bnd, bnd, txText_ok hx, show ByteArray.mk #[44] = tx [44] from rfl, tx_append]
      dsimp only
      rw [okC_le (by rw [tx_size, tx_size, List.length_singleton]; omega), ck_true, okC_le (by rw [tx_size, tx_size, List.length_append, List.length_singleton]; omega), ck_true, okC_le (by rw [tx_size, tx_size]; omega), ck_true, tx_append, tx_append, w64_succ (by omega)]
      by_cases h0 : k = 0
      · subst h0
        rw [show decide (((0 : Nat) : Int) > 0) = false from rfl, br_false, show txsJoin (l.take (0 + 1)) = txsJoin (l.take 0) ++ txL l[0] by rw [txsJoin, map_take_succ hk]; simp [txsJoin, Lib.join_one, Lib.join_nil]]
      · have hne : (l.take k).map txL ≠ [] := by
          intro e
          have := congrArg List.length e
          rw [List.length_map, List.length_take, List.length_nil] at this
          omega
        rw [decide_eq_true (show (k : Int) > 0 by omega), br_true, show txsJoin (l.take (k + 1)) = txsJoin (l.take k) ++ [44] ++ txL l[k] by rw [txsJoin, map_take_succ hk, join_snoc hne]; rfl]
  · obtain ⟨ha, rfl⟩ := ho
    rw [List.take_length] at ha ⊢
    rw [spec_TxsText_1_step, dec_nlt, br_false, spec_TxsText_1_ce0, txsText, if_pos ha]
/-! ### Names -/
def nameNew (up : List UInt8) (view : Int) (l : List TxD) : List UInt8 := up ++ [47] ++ Lib.itoa view ++ [124] ++ txsJoin l
def nameOf (up : List UInt8) (view : Int) (l : List TxD) : List UInt8 := if l.all txOk = true ∧ nameOk (nameNew up view l) = true then nameNew up view l else []
theorem nameNew_le (up : List UInt8) {view : Int} (hv : I64 view) {l : List TxD} (ha : l.all txOk = true) : (nameNew up view l).length ≤ up.length + 23 + 91 * l.length := by
  have := txsJoin_le ha
  have := itoa_le hv
  simp only [nameNew, List.length_append, List.length_singleton]
  omega
theorem NameOf_law {up : List UInt8} (hu : up.length ≤ 1048576) {view : Int} (hv : I64 view) {l : List TxD} (h : l.length ≤ 1048576) : spec_NameOf F0 (tx up) view l = some (tx (nameOf up view l), ()) := by
  have hd := itoa_le hv
  rw [spec_NameOf_eq]
  refine loop_to (fun n i (_ : Unit) => spec_NameOf_1 F0 (spec_NameOf_1_k F0) n (spec_NameOf_1_s (tx up) view l i)) l.length (fun k _ => (l.take k).all txOk = true) _ (fun n k out hk ho => ?_) (fun n out ho => ?_) _ 0 () (Nat.zero_le _) rfl (by rw [n_eq]; omega)
  · rw [spec_NameOf_1_step, dec_lt hk, br_true, okI_nat hk, ck_true, at_is hk, TxOk_law, bnd, spec_NameOf_1_cr]
    dsimp only
    cases hx : txOk l[k] with
    | false =>
      left
      rw [Bool.not_false, br_true, nameOf, if_neg (by rw [all_false_at hk hx]; simp)]
      rfl
    | true =>
      right
      exact ⟨(), by rw [Bool.not_true, br_false, w64_succ (by omega)], by rw [all_take hk, ho, hx]; rfl⟩
  · rw [List.take_length] at ho
    have hj := txsJoin_le ho
    have hn := nameNew_le up hv ho
    rw [spec_NameOf_1_step, dec_nlt, br_false, spec_NameOf_1_ce0, digits_law hv, bnd, TxsText_law h, bnd, txsText, if_pos ho, show ByteArray.mk #[47] = tx [47] from rfl, show ByteArray.mk #[124] = tx [124] from rfl]
    dsimp only
    rw [okC_le (by rw [tx_size, tx_size, List.length_singleton]; omega), ck_true, tx_append, okC_le (by rw [tx_size, tx_size, List.length_append, List.length_singleton]; omega), ck_true, tx_append, okC_le (by rw [tx_size, tx_size, List.length_append, List.length_append, List.length_singleton, List.length_singleton]; omega), ck_true, tx_append,
      okC_le (by rw [tx_size, tx_size, List.length_append, List.length_append, List.length_append, List.length_singleton, List.length_singleton]; omega), ck_true, tx_append, show up ++ [47] ++ Lib.itoa view ++ [124] ++ txsJoin l = nameNew up view l from rfl, NameOk_law (by omega), bnd, nameOf]
    dsimp only
    cases hn : nameOk (nameNew up view l) with
    | false => rw [if_neg (by simp)]; rfl
    | true => rw [if_pos ⟨ho, rfl⟩]; rfl
end Go.Am.Tryz
set_option linter.unusedVariables false
set_option linter.unusedSimpArgs false
namespace Go.Am.Tryz
open Go.Am
/-- It comes, and is such. -/
def Gd {α : Type} (X : Option α) (P : α → Prop) : Prop := ∃ v, X = some v ∧ P v
abbrev DrT (α : Type) := (α × Unit) × (CurD × Unit)
def Dr {α : Type} (X : Option (DrT α)) (Q : α → Prop) : Prop := Gd X fun z => Q z.1.1 ∧ Cur z.2.1
theorem Gd.bind {α β : Type} {X : Option α} {P : α → Prop} (h : Gd X P) {f : α → Option β} {R : β → Prop} (hf : ∀ v, P v → Gd (f v) R) : Gd (X.bind f) R := by
  obtain ⟨v, rfl, hv⟩ := h
  exact hf v hv
theorem Dr.bind {α β : Type} {X : Option (DrT α)} {Q : α → Prop} (h : Dr X Q) {f : DrT α → Option β} {R : β → Prop} (hf : ∀ z : DrT α, Q z.1.1 → Cur z.2.1 → Gd (f z) R) : Gd (X.bind f) R := by
  obtain ⟨z, rfl, h1, h2⟩ := h
  exact hf z h1 h2
theorem Gd.let {α β : Type} {X : Option α} {v : α} (h : X = some v) {f : α → Option β} {R : β → Prop} (hf : Gd (f v) R) : Gd (X.bind f) R := by
  subst h
  exact hf
theorem Gd.ret {α : Type} {v : α} {P : α → Prop} (h : P v) : Gd (some v) P := ⟨v, rfl, h⟩
theorem Gd.br {α : Type} {c : Bool} {x y : Option α} {P : α → Prop} (h1 : c = true → Gd x P) (h2 : c = false → Gd y P) : Gd (br c x y) P := by
  cases c with
  | true => exact h1 rfl
  | false => exact h2 rfl
theorem Gd.ck {α : Type} {c : Bool} {x : Option α} {P : α → Prop} (h1 : c = true) (h2 : Gd x P) : Gd (ck c x) P := by
  subst h1
  exact h2
theorem Gd.mono {α : Type} {X : Option α} {P Q : α → Prop} (h : Gd X P) (hq : ∀ v, P v → Q v) : Gd X Q := by
  obtain ⟨v, e, hv⟩ := h
  exact ⟨v, e, hq v hv⟩
theorem Gd.br0 {α : Type} {c : Bool} {x y : Option α} {P : α → Prop} (h : c = false) (h2 : Gd y P) : Gd (Am.br c x y) P := by
  subst h
  exact h2
theorem gd_loop {ζ β : Type} (X : Nat → Int → ζ → Option β) (L : Nat) (I : Nat → ζ → Prop) (P : β → Prop)
    (hs : ∀ n k z, k < L → I k z → (∀ z', I (k + 1) z' → Gd (X n ((k + 1 : Nat) : Int) z') P) → Gd (X (n + 1) (k : Int) z) P) (he : ∀ n z, I L z → Gd (X (n + 1) (L : Int) z) P) :
    ∀ n k z, k ≤ L → I k z → L - k < n → Gd (X n (k : Int) z) P := by
  intro n
  induction n with
  | zero => intro k z _ _ h; omega
  | succ n ih =>
    intro k z hk hI hn
    by_cases h : k = L
    · subst h
      exact he n z hI
    · exact hs n k z (by omega) hI fun z' hI' => ih (k + 1) z' (by omega) hI' (by omega)
/-! ### Cursors -/
theorem Byte_dr {c : CurD} (h : Cur c) : Dr (α := Int) (spec_l1Byte F0 c) fun v => 0 ≤ v ∧ v ≤ 255 := by
  obtain ⟨v, c', e, h1, h2, h3⟩ := Byte_ok h
  exact ⟨_, e, ⟨h1, h2⟩, h3⟩
theorem four_in {x y z w : Int} (x0 : 0 ≤ x) (x1 : x ≤ 255) (y0 : 0 ≤ y) (y1 : y ≤ 255) (z0 : 0 ≤ z) (z1 : z ≤ 255) (w0 : 0 ≤ w) (w1 : w ≤ 255) : 0 ≤ w64 (w64 (w64 (w64 (x * 16777216) + w64 (y * 65536)) + w64 (z * 256)) + w) := by
  rw [w64_in (n := x * 16777216) (by omega) (by omega), w64_in (n := y * 65536) (by omega) (by omega), w64_in (n := z * 256) (by omega) (by omega), w64_in (n := x * 16777216 + y * 65536) (by omega) (by omega), w64_in (n := x * 16777216 + y * 65536 + z * 256) (by omega) (by omega), w64_in (by omega) (by omega)]
  omega
theorem Below_dr {c : CurD} (h : Cur c) {n : Int} (hn : 0 < n) (hn2 : n ≤ 9223372036854775807) : Dr (α := Int) (spec_l1Below F0 c n) fun v => 0 ≤ v ∧ v < n := by
  by_cases h256 : n ≤ 256
  · obtain ⟨v, c', e, h1, h2, h3⟩ := Below_ok h hn h256
    exact ⟨_, e, ⟨h1, h2⟩, h3⟩
  · unfold Dr
    rw [spec_l1Below_eq]
    refine Gd.br0 (decide_eq_false (by omega)) (Gd.br0 (decide_eq_false h256) ?_)
    refine Dr.bind (Byte_dr h) fun x hx cx => Dr.bind (Byte_dr cx) fun y hy cy => Dr.bind (Byte_dr cy) fun z hz cz => Dr.bind (Byte_dr cz) fun w hw cw => Gd.ck ?_ (Gd.ret ⟨?_, cw⟩)
    · rw [beq_eq_false_iff_ne.2 (show n ≠ 0 by omega)]
      rfl
    · exact tmod_in (four_in hx.1 hx.2 hy.1 hy.2 hz.1 hz.2 hw.1 hw.2) hn
theorem Once_dr {c : CurD} (h : Cur c) {n : Int} (hn : 0 < n) (hn2 : n ≤ 256) : Dr (α := Bool) (spec_l1Once F0 c n) fun _ => True := by
  obtain ⟨v, c', e, h3⟩ := Once_ok h hn hn2
  exact ⟨_, e, trivial, h3⟩
theorem PickInt_dr {c : CurD} (h : Cur c) {l : List Int} (hn : 0 < l.length) (hn2 : l.length ≤ 256) : Dr (α := Int) (spec_l1PickInt F0 c l) fun v => v ∈ l := by
  obtain ⟨v, c', e, h1, h3⟩ := PickInt_ok h hn hn2
  exact ⟨_, e, h1, h3⟩
theorem New_dr {code : List Int} (h : code.length ≤ 1048576) : Gd (spec_l1New F0 code) fun z => Cur z.1.1 := by
  obtain ⟨c, e, hc⟩ := New_ok h
  exact ⟨_, e, hc⟩
theorem DrawBent_dr {c : CurD} (h : Cur c) : Dr (α := Int × Int) (spec_l7DrawBent F0 c) fun _ => True := by
  obtain ⟨v, c', e, h3⟩ := DrawBent_ok h
  exact ⟨_, e, trivial, h3⟩
theorem tx_in {x y z w : Int} (x0 : 0 ≤ x) (x1 : x < 4) (y0 : 0 ≤ y) (y1 : y < 4) (z0 : z ∈ [(0 : Int), 5, 60, 100, 1000]) (w0 : 0 ≤ w) (w1 : w < 3) : txOk (x, (y, (z, w))) = true := by
  simp only [List.mem_cons, List.not_mem_nil, or_false] at z0
  simp only [txOk, inB, Bool.and_eq_true, decide_eq_true_eq]
  rcases z0 with rfl | rfl | rfl | rfl | rfl <;> omega
theorem DrawTx_dr {c : CurD} (h : Cur c) : Dr (α := TxD) (spec_l2DrawRight F0 c) fun v => txOk v = true := by
  unfold Dr
  rw [spec_l2DrawRight_eq]
  refine Dr.bind (Below_dr h (n := 4) (by omega) (by omega)) fun x hx cx => Dr.bind (Below_dr cx (n := 4) (by omega) (by omega)) fun y hy cy => Dr.bind (PickInt_dr cy (l := [0, 5, 60, 100, 1000]) (by decide) (by decide)) fun z hz cz => Dr.bind (Below_dr cz (n := 3) (by omega) (by omega)) fun w hw cw => Gd.ret ⟨?_, cw⟩
  exact tx_in hx.1 hx.2 hy.1 hy.2 hz hw.1 hw.2
theorem DrawSet_dr {c : CurD} (h : Cur c) {m : Int} (hm : 0 < m) (hm2 : m ≤ 256) : Dr (α := List Int) (spec_l6DrawSet F0 c m) fun v => v.length ≤ 9 := by
  obtain ⟨v, c', e, h1, h3⟩ := DrawSet_ok h hm hm2
  exact ⟨_, e, h1, h3⟩
/-! ### Names -/
theorem name_gd (up : List UInt8) (view : Int) (i : Nat) {γ : Type} (κ : Ex → St → Option γ) {P : γ → Prop} (hR : ∀ xs (c : CurD), xs.length ≤ 3 → (∀ x ∈ xs, txOk x = true) → Cur c → Gd (κ (.exit 2) (spec_l5DrawRight_2_e2 (tx up) view (i : Int) c.1 c.2.1 c.2.2 xs)) P) {c : CurD} (hc : Cur c) :
    Gd (spec_l5DrawRight_2 F0 κ F0.n (spec_l5DrawRight_2_s (tx up) view (i : Int) 0 c.1 c.2.1 c.2.2 [])) P := by
  refine gd_loop (fun n k (z : CurD × List TxD) => spec_l5DrawRight_2 F0 κ n (spec_l5DrawRight_2_s (tx up) view (i : Int) k z.1.1 z.1.2.1 z.1.2.2 z.2)) 3 (fun k z => Cur z.1 ∧ z.2.length ≤ k ∧ ∀ x ∈ z.2, txOk x = true) _ (fun n k z hk hI ih => ?_) (fun n z hI => ?_) F0.n 0 (c, []) (Nat.zero_le _) ⟨hc, Nat.le_refl _, fun x hx => by cases hx⟩ (by rw [n_eq]; omega)
  · rw [spec_l5DrawRight_2_step]
    refine Dr.bind (Below_dr hI.1 (n := 3) (by omega) (by omega)) fun x hx cx => Gd.br (fun _ => ?_) fun _ => ?_
    · refine Dr.bind (DrawTx_dr cx) fun y hy cy => Gd.ck (okA_le (by omega) (by omega) (by rw [List.length_singleton]; have := hI.2.1; omega)) ?_
      rw [w64_succ (by omega)]
      refine ih (y.2.1, z.2 ++ [y.1.1]) ⟨cy, by rw [List.length_append, List.length_singleton]; have := hI.2.1; omega, fun x hx => ?_⟩
      rcases List.mem_append.1 hx with h | h
      · exact hI.2.2 x h
      · rw [List.mem_singleton.1 h]
        exact hy
    · exact hR z.2 x.2.1 (by have := hI.2.1; omega) hI.2.2 cx
  · rw [spec_l5DrawRight_2_step]
    refine Dr.bind (Below_dr hI.1 (n := 3) (by omega) (by omega)) fun x hx cx => ?_
    refine Gd.br0 (decide_eq_false (by have := hx.2; show ¬ (3 : Int) < x.1.1; omega)) ?_
    exact hR z.2 x.2.1 hI.2.1 hI.2.2 cx
theorem nameOf_ok {up : List UInt8} {view : Int} {l : List TxD} : nameOk (nameOf up view l) = true := by
  unfold nameOf
  split
  · rename_i h; exact h.2
  · exact nameOk_nil
theorem nameOf_le {up : List UInt8} {view : Int} (hv : I64 view) (l : List TxD) : (nameOf up view l).length ≤ up.length + 23 + 91 * l.length := by
  unfold nameOf
  split
  · rename_i h; exact nameNew_le up hv h.1
  · exact Nat.zero_le _
/-- A drawn text that is a name. -/
def NmOk (b : ByteArray) : Prop := b.size ≤ 10000 ∧ nameOk b.data.toList = true
theorem DrawName_dr {c : CurD} (h : Cur c) : Dr (α := ByteArray) (spec_l5DrawRight F0 c) NmOk := by
  unfold Dr
  rw [spec_l5DrawRight_eq]
  refine gd_loop (fun n i (z : CurD × (List UInt8 × Int)) => spec_l5DrawRight_1 F0 (spec_l5DrawRight_1_k F0) n (spec_l5DrawRight_1_s (tx z.2.1) z.2.2 i z.1.1 z.1.2.1 z.1.2.2)) 6 (fun k z => Cur z.1 ∧ z.2.1.length ≤ 300 * k ∧ nameOk z.2.1 = true ∧ 0 ≤ z.2.2 ∧ z.2.2 ≤ 2 * k) _ (fun n k z hk hI ih => ?_) (fun n z hI => ?_) F0.n 0 (c, ([], 0)) (Nat.zero_le _) ⟨h, Nat.zero_le _, nameOk_nil, Int.le_refl _, Int.le_refl _⟩ (by rw [n_eq]; omega)
  · obtain ⟨hc, hl, ho, h0, hv⟩ := hI
    rw [spec_l5DrawRight_1_step]
    refine Dr.bind (Below_dr hc (n := 6) (by omega) (by omega)) fun x hx cx => Gd.br (fun _ => ?_) fun _ => ?_
    · refine Dr.bind (Below_dr cx (n := 4) (by omega) (by omega)) fun y hy cy => ?_
      have hd : Int.tdiv y.1.1 3 = y.1.1 / 3 := Int.tdiv_eq_ediv_of_nonneg hy.1
      have y0 := hy.1
      have y1 := hy.2
      rw [hd, w64_in (n := z.2.2 + 1) (by omega) (by omega), w64_in (n := y.1.1 / 3) (by omega) (by omega), w64_in (n := z.2.2 + 1 + y.1.1 / 3) (by omega) (by omega)]
      refine name_gd z.2.1 (z.2.2 + 1 + y.1.1 / 3) k _ (fun xs c' hxs hxo hc' => ?_) cy
      rw [spec_l5DrawRight_2_ce2]
      have hv' : I64 (z.2.2 + 1 + y.1.1 / 3) := ⟨by omega, by omega⟩
      refine Gd.let (NameOf_law (by omega) hv' (by omega)) ?_
      rw [w64_succ (by omega)]
      exact ih (c', (nameOf z.2.1 (z.2.2 + 1 + y.1.1 / 3) xs, z.2.2 + 1 + y.1.1 / 3)) ⟨hc', by have := nameOf_le (up := z.2.1) hv' xs; dsimp only; omega, nameOf_ok, by dsimp only; omega, by dsimp only; omega⟩
    · rw [spec_l5DrawRight_1_ce0]
      exact Gd.ret ⟨⟨by rw [show (tx z.2.1).size = _ from tx_size _]; omega, by rw [show (tx z.2.1).data.toList = _ from tx_list _]; exact ho⟩, cx⟩
  · obtain ⟨hc, hl, ho, h0, hv⟩ := hI
    rw [spec_l5DrawRight_1_step]
    refine Dr.bind (Below_dr hc (n := 6) (by omega) (by omega)) fun x hx cx => ?_
    refine Gd.br0 (decide_eq_false (by have := hx.2; show ¬ (6 : Int) < x.1.1; omega)) ?_
    rw [spec_l5DrawRight_1_ce0]
    exact Gd.ret ⟨⟨by rw [show (tx z.2.1).size = _ from tx_size _]; omega, by rw [show (tx z.2.1).data.toList = _ from tx_list _]; exact ho⟩, cx⟩
end Go.Am.Tryz
set_option linter.unusedVariables false
set_option linter.unusedSimpArgs false
namespace Go.Am.Tryz
open Go.Am
/-! ### Sets joined -/
def joinA (a b : List Int) : List Int := b.foldl setA (a.foldl setA [])
theorem foldl_setA_len : ∀ (l out : List Int), (l.foldl setA out).length ≤ out.length + l.length
  | [], out => by simp
  | x :: l, out => by
    have h1 := foldl_setA_len l (setA out x)
    have h2 := setA_len out x
    rw [List.foldl_cons, List.length_cons]
    omega
theorem joinA_len (a b : List Int) : (joinA a b).length ≤ a.length + b.length := by
  unfold joinA
  have h1 := foldl_setA_len b (a.foldl setA [])
  have h2 := foldl_setA_len a []
  rw [List.length_nil] at h2
  omega
theorem fold_setA {γ : Type} (X : Nat → Int → List Int → Option γ) (l out : List Int) (R : Option γ) (hlen : out.length + l.length ≤ 1048576) (hs : ∀ n k xs (h : k < l.length), xs.length ≤ 1048575 → X (n + 1) (k : Int) xs = X n ((k + 1 : Nat) : Int) (setA xs l[k]))
    (he : ∀ n, X (n + 1) (l.length : Int) (l.foldl setA out) = R) (n : Nat) (hn : l.length < n) : X n 0 out = R := by
  refine loop_to X l.length (fun k xs => xs = (l.take k).foldl setA out) R (fun n k xs hk h => .inr ⟨setA xs l[k], hs n k xs hk ?_, ?_⟩) (fun n xs h => ?_) n 0 out (Nat.zero_le _) rfl (by omega)
  · have := foldl_setA_len (l.take k) out
    rw [h]
    rw [List.length_take] at this
    omega
  · rw [take_succ_is hk, List.foldl_append, ← h]
    rfl
  · rw [List.take_length] at h
    rw [h]
    exact he n
theorem SetJoin_law2 {a b : List Int} (h : a.length + b.length ≤ 1048576) : impl_SetJoin F0 a b = some (joinA a b, ()) := by
  rw [impl_SetJoin_eq]
  have hl := foldl_setA_len a []
  rw [List.length_nil] at hl
  refine fold_setA (fun n i xs => impl_SetJoin_1 F0 (impl_SetJoin_1_k F0) n (impl_SetJoin_1_s b a (a.length : Int) i xs)) a [] _ (by rw [List.length_nil]; omega) (fun n k xs hk hx => ?_) (fun n => ?_) _ (by rw [n_eq]; omega)
  · rw [impl_SetJoin_1_step, dec_lt hk, br_true, okI_nat hk, ck_true, at_isD hk, SetAdd_law2 (by omega), bnd, w64_succ (by omega)]
  · rw [impl_SetJoin_1_step, dec_nlt, br_false, impl_SetJoin_1_ce0]
    refine fold_setA (fun n i xs => impl_SetJoin_2 F0 (impl_SetJoin_2_k F0) n (impl_SetJoin_2_s b (b.length : Int) i xs)) b (a.foldl setA []) _ (by omega) (fun n k xs hk hx => ?_) (fun n => ?_) _ (by rw [n_eq]; omega)
    · rw [impl_SetJoin_2_step, dec_lt hk, br_true, okI_nat hk, ck_true, at_isD hk, SetAdd_law2 (by omega), bnd, w64_succ (by omega)]
    · rw [impl_SetJoin_2_step, dec_nlt, br_false, impl_SetJoin_2_ce2]
      rfl
/-! ### Trees -/
theorem okI_int {i n : Int} (h0 : 0 ≤ i) (h : i < n) : okI i n = true := by simp [okI]; omega
theorem at_toNat {α : Type} (xs : List α) (i : Int) (d : α) : at_ xs i d = xs.getD i.toNat d := rfl
theorem at_set_self {α : Type} {xs : List α} {i : Int} (h0 : 0 ≤ i) (h : i < xs.length) (v d : α) : at_ (xs.set i.toNat v) i d = v := by
  rw [at_toNat, List.getD_eq_getElem?_getD, List.getElem?_set_self (by omega)]
  rfl
theorem at_set_ne {α : Type} {xs : List α} {i j : Int} (h0 : 0 ≤ i) (hj : 0 ≤ j) (h : i ≠ j) (v d : α) : at_ (xs.set i.toNat v) j d = at_ xs j d := by
  rw [at_toNat, at_toNat, List.getD_eq_getElem?_getD, List.getD_eq_getElem?_getD, List.getElem?_set_ne (by omega)]
theorem at_mapB {α β : Type} (f : α → β) (xs : List α) (i : Int) (d : α) : f (at_ xs i d) = at_ (xs.map f) i (f d) := by
  rw [at_toNat, at_toNat, List.getD_eq_getElem?_getD, List.getD_eq_getElem?_getD, List.getElem?_map]
  cases xs[i.toNat]? <;> rfl
theorem at_len {xs : List (List Int)} {b : Nat} (h : ∀ x ∈ xs, x.length ≤ b) (i : Int) : (at_ xs i []).length ≤ b := by
  rw [at_toNat, List.getD_eq_getElem?_getD]
  cases he : xs[i.toNat]? with
  | none => exact Nat.zero_le _
  | some x => exact h x (List.mem_of_getElem? he)
theorem set_len {xs : List (List Int)} {b : Nat} (h : ∀ x ∈ xs, x.length ≤ b) {i : Nat} {v : List Int} (hv : v.length ≤ b) : ∀ x ∈ xs.set i v, x.length ≤ b := by
  intro x hx
  rcases List.mem_or_eq_of_mem_set hx with h1 | h1
  · exact h x h1
  · rw [h1]
    exact hv
def treeMine (who : List Int) (i : Int) (xs : List (List Int)) : List (List Int) := if i ∈ who then xs.set i.toNat (setA (at_ xs i []) i) else xs
def treeJoin (u i : Int) (xs : List (List Int)) : List (List Int) := if 0 ≤ u then xs.set u.toNat (joinA (at_ xs u []) (at_ xs i [])) else xs
def treeRows (c : Int × Int) (view : Int) (who : List Int) : Nat → List (List Int) → List (List Int)
  | 0, xs => xs
  | k + 1, xs => treeRows c view who k (treeJoin (upOf c view (sitsOf c view k)) (sitsOf c view k) (treeMine who (sitsOf c view k) xs))
theorem treeMine_len {who : List Int} {i : Int} {xs : List (List Int)} {b : Nat} (h : ∀ x ∈ xs, x.length ≤ b) : (treeMine who i xs).length = xs.length ∧ ∀ x ∈ treeMine who i xs, x.length ≤ b + 1 := by
  have h1 := setA_len (at_ xs i []) i
  have h2 := at_len h i
  have h3 : ∀ x ∈ xs, x.length ≤ b + 1 := fun x hx => Nat.le_succ_of_le (h x hx)
  unfold treeMine
  split
  · exact ⟨List.length_set, set_len h3 (by omega)⟩
  · exact ⟨rfl, h3⟩
theorem treeJoin_len {u i : Int} {xs : List (List Int)} {b : Nat} (h : ∀ x ∈ xs, x.length ≤ b) : (treeJoin u i xs).length = xs.length ∧ ∀ x ∈ treeJoin u i xs, x.length ≤ b + b := by
  have h1 := joinA_len (at_ xs u []) (at_ xs i [])
  have h2 := at_len h u
  have h4 := at_len h i
  have h3 : ∀ x ∈ xs, x.length ≤ b + b := fun x hx => Nat.le_trans (h x hx) (by omega)
  unfold treeJoin
  split
  · exact ⟨List.length_set, set_len h3 (by omega)⟩
  · exact ⟨rfl, h3⟩
theorem treeRows_len (c : Int × Int) (view : Int) (who : List Int) : ∀ (k : Nat) (xs : List (List Int)) (b : Nat), (∀ x ∈ xs, x.length ≤ b) → (treeRows c view who k xs).length = xs.length ∧ ∀ x ∈ treeRows c view who k xs, x.length + 2 ≤ 2 ^ k * (b + 2)
  | 0, xs, b, h => ⟨rfl, fun x hx => by have := h x hx; rw [Nat.pow_zero, Nat.one_mul]; omega⟩
  | k + 1, xs, b, h => by
    have h1 := treeMine_len (who := who) (i := sitsOf c view k) h
    have h2 := treeJoin_len (u := upOf c view (sitsOf c view k)) (i := sitsOf c view k) h1.2
    have h3 := treeRows_len c view who k _ _ h2.2
    refine ⟨h3.1.trans (h2.1.trans h1.1), fun x hx => Nat.le_trans (h3.2 x hx) ?_⟩
    rw [Nat.pow_succ, Nat.mul_assoc]
    exact Nat.mul_le_mul_left _ (by omega)
theorem pow7 {k : Nat} (h : k ≤ 7) : 2 ^ k ≤ 128 := Nat.le_trans (Nat.pow_le_pow_right (by omega) h) (by decide)
theorem sits_in {c : Int × Int} {view s : Int} (hc : confOk c = true) (hv : 0 ≤ view) (h0 : 0 ≤ s) (h : s < c.1) : 0 ≤ sitsOf c view s ∧ sitsOf c view s < c.1 := by
  have hn := confOk_n hc
  unfold sitsOf
  rw [if_pos ⟨hc, hv, h0, by omega⟩]
  exact ⟨Int.emod_nonneg _ (by omega), Int.emod_lt_of_pos _ (by omega)⟩
theorem sits_root {c : Int × Int} {view : Int} (hc : confOk c = true) (hv : 0 ≤ view) : sitsOf c view 0 = view % c.1 := by
  have hn := confOk_n hc
  unfold sitsOf
  rw [if_pos ⟨hc, hv, by omega, by omega⟩, Int.add_zero, Int.emod_emod]
theorem up_root {c : Int × Int} {view : Int} (hc : confOk c = true) (hv : 0 ≤ view) : upOf c view (view % c.1) = -1 := by
  have hn := confOk_n hc
  have hm := mod_in hn.1 view
  have hs : seatOf c view (view % c.1) = 0 := by
    unfold seatOf
    rw [if_pos ⟨hc, hv, hm.1, by omega⟩, show view % c.1 + c.1 - view % c.1 = c.1 by omega, Int.emod_self]
  unfold upOf
  rw [if_pos (by omega)]
theorem set_at {α : Type} {xs : List α} {i : Int} (h0 : 0 ≤ i) (h : i < xs.length) (d : α) : xs.set i.toNat (at_ xs i d) = xs := by
  rw [at_toNat, List.getD_eq_getElem?_getD, List.getElem?_eq_getElem (by omega)]
  exact List.set_getElem_self (by omega)
def thirds (ys : List QcD) : List (List Int) := ys.map fun y => y.2.2
theorem thirds_len (ys : List QcD) : (thirds ys).length = ys.length := List.length_map _
theorem thirds_set (ys : List QcD) (i : Nat) (y : QcD) : thirds (ys.set i y) = (thirds ys).set i y.2.2 := List.map_set
theorem thirds_at (ys : List QcD) (i : Int) : (at_ ys i K11.dflt).2.2 = at_ (thirds ys) i [] := at_mapB (fun y : QcD => y.2.2) ys i K11.dflt
def treeMe (who : List Int) (i : Int) (xs : List (List Int)) : List Int := if i ∈ who then setA (at_ xs i []) i else at_ xs i []
theorem treeMe_mine {who : List Int} {i : Int} {xs : List (List Int)} (h0 : 0 ≤ i) (h : i < xs.length) : xs.set i.toNat (treeMe who i xs) = treeMine who i xs := by
  unfold treeMe treeMine
  split
  · rfl
  · exact set_at h0 h []
def treeJoin2 (u i : Int) (T : List QcD) : List QcD := if 0 ≤ u then T.set u.toNat ((at_ T u K11.dflt).1, ((at_ T u K11.dflt).2.1, joinA (at_ (thirds T) u []) (at_ (thirds T) i []))) else T
theorem treeTail2 {β : Type} (X : List QcD → Option β) {u i : Int} {T : List QcD} {b : Nat} {me : List Int} (hiu : 0 ≤ u → u < T.length) (hb : ∀ x ∈ thirds T, x.length ≤ b) (hb1 : b ≤ 524288) (hme : me = at_ (thirds T) i []) :
    br (decide (u ≥ 0)) (ck (okI u (T.length : Int)) ((impl_SetJoin F0 (at_ T u K11.dflt).2.2 me).bind fun r72 => ck (okI u (T.length : Int)) (X (T.set u.toNat ((at_ T u K11.dflt).1, ((at_ T u K11.dflt).2.1, r72.1)))))) (X T) = X (treeJoin2 u i T) := by
  unfold treeJoin2
  by_cases h : 0 ≤ u
  · have h1 := at_len hb u
    have h2 := at_len hb i
    rw [decide_eq_true (show u ≥ 0 from h), br_true, okI_int h (hiu h), ck_true, thirds_at, hme, SetJoin_law2 (by omega), bnd, ck_true, if_pos h]
  · rw [decide_eq_false h, br_false, if_neg h]
theorem treeJoin2_thirds (u i : Int) (T : List QcD) : thirds (treeJoin2 u i T) = treeJoin u i (thirds T) := by
  unfold treeJoin2 treeJoin
  split
  · rw [thirds_set]
  · rfl
theorem treeJoin2_len (u i : Int) (T : List QcD) : (treeJoin2 u i T).length = T.length := by
  unfold treeJoin2
  split
  · rw [List.length_set]
  · rfl
theorem treeImpl {c : Int × Int} (hc : confOk c = true) {view : Int} (hv : 0 ≤ view) (name : ByteArray) {who : List Int} (hw : who.length ≤ 1048576) (t8 : Int) (t81 : ByteArray) (xs1 : List Int) {γ : Type} (κ : Ex → St → Option γ) : ∀ (k : Nat) (ys : List QcD) (n b : Nat), (k : Int) ≤ c.1 → (ys.length : Int) = c.1 → (∀ x ∈ thirds ys, x.length ≤ b) → 2 ^ k * (b + 2) ≤ 1048576 → k < n →
    ∃ zs, impl_Tree_1 F0 κ n (impl_Tree_1_s view name who ((k : Int) - 1) c.1 c.2 t8 t81 ys xs1) = κ (.exit 0) (impl_Tree_1_e0 view c.1 c.2 t8 t81 zs xs1) ∧ thirds zs = treeRows c view who k (thirds ys) ∧
      (k = 0 → zs = ys) ∧ (0 < k → at_ zs (view % c.1) K11.dflt = (view, name, at_ (thirds zs) (view % c.1) []))
  | 0, ys, n, b, hk, hl, hb, hp, hn => by
    obtain ⟨n, rfl⟩ : ∃ m, n = m + 1 := ⟨n - 1, by omega⟩
    refine ⟨ys, ?_, rfl, fun _ => rfl, fun h => absurd h (Nat.lt_irrefl _)⟩
    rw [impl_Tree_1_step, decide_eq_false (by omega), br_false]
  | k + 1, ys, n, b, hk, hl, hb, hp, hn => by
    obtain ⟨n, rfl⟩ : ∃ m, n = m + 1 := ⟨n - 1, by omega⟩
    have hcn := confOk_n hc
    have hp2 : 2 ^ k * (b + 2) ≤ 524288 := by rw [Nat.pow_succ, Nat.mul_assoc, Nat.mul_comm 2, ← Nat.mul_assoc] at hp; omega
    have hb2 : b + 2 ≤ 524288 := Nat.le_trans (Nat.le_mul_of_pos_left _ (Nat.two_pow_pos k)) hp2
    have hi := sits_in hc hv (s := k) (by omega) (by omega)
    have hs : ((k + 1 : Nat) : Int) - 1 = (k : Int) := by omega
    have hw1 : w64 ((k : Int) - 1) = (k : Int) - 1 := w64_in (by omega) (by omega)
    have hrt : k = 0 → upOf c view (sitsOf c view k) = -1 ∧ sitsOf c view k = view % c.1 := fun h => by subst h; exact ⟨by rw [show ((0 : Nat) : Int) = 0 from rfl, sits_root hc hv, up_root hc hv], sits_root hc hv⟩
    have hm := treeMine_len (who := who) (i := sitsOf c view k) hb
    have hj := treeJoin_len (u := upOf c view (sitsOf c view k)) (i := sitsOf c view k) hm.2
    have htl := thirds_len ys
    have ht1 : thirds (ys.set (sitsOf c view k).toNat (view, (name, treeMe who (sitsOf c view k) (thirds ys)))) = treeMine who (sitsOf c view k) (thirds ys) := by
      rw [thirds_set]
      exact treeMe_mine hi.1 (by omega)
    have hu : 0 ≤ upOf c view (sitsOf c view k) → upOf c view (sitsOf c view k) < c.1 := upOf_in
    have hme : treeMe who (sitsOf c view k) (thirds ys) = at_ (thirds (ys.set (sitsOf c view k).toNat (view, (name, treeMe who (sitsOf c view k) (thirds ys))))) (sitsOf c view k) [] := by
      rw [thirds_set, at_set_self hi.1 (by omega)]
    have hgo : impl_Tree_1 F0 κ (n + 1) (impl_Tree_1_s view name who (((k + 1 : Nat) : Int) - 1) c.1 c.2 t8 t81 ys xs1) =
        impl_Tree_1 F0 κ n (impl_Tree_1_s view name who ((k : Int) - 1) c.1 c.2 t8 t81 (treeJoin2 (upOf c view (sitsOf c view k)) (sitsOf c view k) (ys.set (sitsOf c view k).toNat (view, (name, treeMe who (sitsOf c view k) (thirds ys))))) xs1) := by
      rw [impl_Tree_1_step, hs, decide_eq_true (by omega), br_true, show ((c.1, c.2) : Int × Int) = c from rfl, Sits_law2, bnd]
      dsimp only
      rw [okI_int hi.1 (by omega), ck_true, SetHas_law2 (by omega), bnd, hw1]
      dsimp only
      rw [thirds_at]
      clear hrt hj
      generalize sitsOf c view k = i at hi hm hu ht1 hme ⊢
      have ha := at_len hb i
      by_cases hm1 : i ∈ who
      · have hT : treeMe who i (thirds ys) = setA (at_ (thirds ys) i []) i := by unfold treeMe; rw [if_pos hm1]
        rw [decide_eq_true hm1, br_true, SetAdd_law2 (by omega), bnd]
        dsimp only
        rw [ck_true, Up_law2, bnd, ← hT]
        exact treeTail2 (fun T => impl_Tree_1 F0 κ n (impl_Tree_1_s view name who ((k : Int) - 1) c.1 c.2 t8 t81 T xs1)) (fun h => by rw [List.length_set, hl]; exact hu h) (by rw [ht1]; exact hm.2) (by omega) hme
      · have hT : treeMe who i (thirds ys) = at_ (thirds ys) i [] := by unfold treeMe; rw [if_neg hm1]
        rw [decide_eq_false hm1, br_false, ck_true, Up_law2, bnd, ← hT]
        exact treeTail2 (fun T => impl_Tree_1 F0 κ n (impl_Tree_1_s view name who ((k : Int) - 1) c.1 c.2 t8 t81 T xs1)) (fun h => by rw [List.length_set, hl]; exact hu h) (by rw [ht1]; exact hm.2) (by omega) hme
    obtain ⟨ws, e1, e2, e3, e4⟩ := treeImpl hc hv name hw t8 t81 xs1 κ k (treeJoin2 (upOf c view (sitsOf c view k)) (sitsOf c view k) (ys.set (sitsOf c view k).toNat (view, (name, treeMe who (sitsOf c view k) (thirds ys))))) n (b + 1 + (b + 1)) (by omega)
      (by rw [treeJoin2_len, List.length_set, hl]) (by rw [treeJoin2_thirds, ht1]; exact hj.2)
      (by rw [Nat.pow_succ, Nat.mul_assoc] at hp; exact Nat.le_trans (Nat.mul_le_mul_left _ (by omega)) hp) (by omega)
    refine ⟨ws, hgo.trans e1, e2.trans (by rw [treeJoin2_thirds, ht1]; rfl), fun h => by omega, fun _ => ?_⟩
    rcases Nat.eq_zero_or_pos k with h | h
    · have hr := hrt h
      rw [e3 h, hr.1]
      unfold treeJoin2
      rw [if_neg (by omega), ← hr.2, ← hme, at_set_self hi.1 (by omega)]
    · exact e4 h
def treeOf (c : Int × Int) (view : Int) (name : List UInt8) (who : List Int) : Option (Int × List UInt8 × List Int) :=
  if confOk c = true ∧ 0 ≤ view then partQc c (view, name, at_ (treeRows c view who c.1.toNat (List.replicate c.1.toNat [])) (view % c.1) []) else none
theorem rep_len (n : Nat) : ∀ x ∈ List.replicate n ([] : List Int), x.length ≤ 0 := fun x hx => by rw [List.eq_of_mem_replicate hx]; exact Nat.le_refl _
theorem treeRoot_len {c : Int × Int} (hc : confOk c = true) (view : Int) (who : List Int) : (at_ (treeRows c view who c.1.toNat (List.replicate c.1.toNat [])) (view % c.1) []).length ≤ 254 := by
  have hn := confOk_n hc
  have h := (treeRows_len c view who c.1.toNat _ 0 (rep_len c.1.toNat)).2
  have h7 := pow7 (k := c.1.toNat) (by omega)
  exact at_len (fun x hx => by have := h x hx; omega) _
theorem thirds_rep (n : Nat) : thirds (List.replicate n (0, (ByteArray.mk #[], []))) = List.replicate n [] := List.map_replicate
theorem Tree_law2 {name : List UInt8} (hn : name.length ≤ 1073741824) {who : List Int} (hw : who.length ≤ 1048576) (c : Int × Int) (view : Int) : impl_Tree F0 c view (tx name) who = some ((qcOut (treeOf c view name who)).1, (qcOut (treeOf c view name who)).2, ()) := by
  rw [impl_Tree_eq, ConfOk_law2, bnd, nil_tx]
  unfold treeOf
  dsimp only
  by_cases hc : confOk c = true
  · rw [hc, Bool.not_true, br_false]
    by_cases hv : view < 0
    · rw [decide_eq_true hv, br_true, if_neg (fun h => by omega)]
      rfl
    · have hcn := confOk_n hc
      have hl := treeRoot_len hc view who
      have h7 := pow7 (k := c.1.toNat) (by omega)
      have hm := mod_in hcn.1 view
      have hrl := (treeRows_len c view who c.1.toNat _ 0 (rep_len c.1.toNat)).1
      rw [List.length_replicate] at hrl
      rw [decide_eq_false hv, br_false, if_pos ⟨rfl, by omega⟩, w64_n1 hcn.1 hcn.2.1]
      obtain ⟨zs, h1, h2, _, h4⟩ := treeImpl hc (show 0 ≤ view by omega) (tx name) hw 0 (tx []) [] (impl_Tree_1_k F0) c.1.toNat (List.replicate c.1.toNat (0, (tx [], []))) F0.n 0 (by omega) (by rw [List.length_replicate]; omega) (by rw [← nil_tx, thirds_rep]; exact rep_len _) (by omega) (by rw [n_eq]; omega)
      rw [show ((c.1.toNat : Nat) : Int) = c.1 by omega] at h1
      rw [← nil_tx, thirds_rep] at h2
      have hz := thirds_len zs
      rw [h2] at hz
      rw [show okM F0 c.1 c.1 48 = true by have := okM_le (n := c.1.toNat) (k := 48) (by omega) (by omega) (by omega); rwa [show ((c.1.toNat : Nat) : Int) = c.1 by omega] at this, ck_true, h1, impl_Tree_1_ce0, show ((c.1, c.2) : Int × Int) = c from rfl, Root_law2, bnd]
      unfold rootOf
      rw [if_pos ⟨hc, by omega⟩]
      dsimp only
      rw [okI_int hm.1 (by omega), ck_true, h4 (by omega), h2, PartQc_law2 hn (by omega), bnd]
  · rw [Bool.eq_false_iff.2 hc, Bool.not_false, br_true, if_neg (fun h => by cases h.1)]
    rfl
end Go.Am.Tryz
set_option linter.unusedVariables false
set_option linter.unusedSimpArgs false
namespace Go.Am.Tryz
open Go.Am
def starOf (c : Int × Int) (view : Int) (name : List UInt8) (who : List Int) : Option (Int × List UInt8 × List Int) :=
  if confOk c = true ∧ 0 ≤ view then partQc c (view, name, someL (w64 (c.1 - 1)) [] who) else none
theorem Star_law {name : List UInt8} (hn : name.length ≤ 1073741824) {who : List Int} (hw : who.length ≤ 1048576) (c : Int × Int) (view : Int) : spec_Star F0 c view (tx name) who = some ((qcOut (starOf c view name who)).1, (qcOut (starOf c view name who)).2, ()) := by
  have hl := someL_len (w64 (c.1 - 1)) who []
  rw [List.length_nil] at hl
  rw [spec_Star_eq, ConfOk_law, bnd, nil_tx]
  unfold starOf
  dsimp only
  by_cases hc : confOk c = true
  · rw [hc, Bool.not_true, br_false]
    by_cases hv : view < 0
    · rw [decide_eq_true hv, br_true, if_neg (fun h => by omega)]
      rfl
    · rw [decide_eq_false hv, br_false, l22Some_law c hw, bnd]
      dsimp only
      rw [PartQc_law hn (by omega), bnd, if_pos ⟨rfl, by omega⟩]
  · rw [Bool.eq_false_iff.2 hc, Bool.not_false, br_true, if_neg (fun h => by cases h.1)]
    rfl
theorem Star_law2 {name : List UInt8} (hn : name.length ≤ 1073741824) {who : List Int} (hw : who.length ≤ 1048576) (c : Int × Int) (view : Int) : impl_Star F0 c view (tx name) who = some ((qcOut (starOf c view name who)).1, (qcOut (starOf c view name who)).2, ()) := by
  have hl := someL_len (w64 (c.1 - 1)) who []
  rw [List.length_nil] at hl
  rw [impl_Star_eq, ConfOk_law2, bnd, nil_tx]
  unfold starOf
  dsimp only
  by_cases hc : confOk c = true
  · rw [hc, Bool.not_true, br_false]
    by_cases hv : view < 0
    · rw [decide_eq_true hv, br_true, if_neg (fun h => by omega)]
      rfl
    · rw [decide_eq_false hv, br_false, replicasOf_law c hw, bnd]
      dsimp only
      rw [PartQc_law2 hn (by omega), bnd, if_pos ⟨rfl, by omega⟩]
  · rw [Bool.eq_false_iff.2 hc, Bool.not_false, br_true, if_neg (fun h => by cases h.1)]
    rfl
/-! ### The law -/
theorem starOf_len (c : Int × Int) (view : Int) (name : List UInt8) (who : List Int) : (qcOut (starOf c view name who)).1.2.2.length ≤ who.length := by
  refine qcOut_len fun q hq => ?_
  unfold starOf partQc at hq
  split at hq
  · split at hq
    · cases hq
      have := someL_len (w64 (c.1 - 1)) who []
      rw [List.length_nil] at this
      show (someL _ _ _).length ≤ _
      omega
    · cases hq
  · cases hq
end Go.Am.Tryz
set_option linter.unusedVariables false
set_option linter.unusedSimpArgs false
namespace Go.Am.Tryz
open Go.Am
theorem seat_sits {c : Int × Int} {view s : Int} (hc : confOk c = true) (hv : 0 ≤ view) (h0 : 0 ≤ s) (h : s ≤ c.1 - 1) : seatOf c view (sitsOf c view s) = s := by
  have hn := confOk_n hc
  have hs1 := Int.emod_nonneg (view % c.1 + s) (show c.1 ≠ 0 by omega)
  have hs2 := Int.emod_lt_of_pos (view % c.1 + s) (show 0 < c.1 by omega)
  unfold sitsOf
  rw [if_pos ⟨hc, hv, h0, h⟩]
  unfold seatOf
  rw [if_pos ⟨hc, hv, hs1, by omega⟩]
  obtain ⟨n, a⟩ := c
  dsimp only at *
  have hn4 : n = 4 ∨ n = 5 ∨ n = 6 ∨ n = 7 := by omega
  rcases hn4 with rfl | rfl | rfl | rfl <;> omega
theorem seat_neg (c : Int × Int) (view : Int) : seatOf c view (-1) = -1 := by
  unfold seatOf
  rw [if_neg (fun h => by omega)]
theorem seatOf_facts {c : Int × Int} {view i : Int} (h : 0 ≤ seatOf c view i) : confOk c = true ∧ 0 ≤ view ∧ seatOf c view i ≤ c.1 - 1 := by
  unfold seatOf at h ⊢
  by_cases hc : confOk c = true ∧ 0 ≤ view ∧ 0 ≤ i ∧ i ≤ c.1 - 1
  · rw [if_pos hc]
    have hn := confOk_n hc.1
    have h2 := Int.emod_lt_of_pos (i + c.1 - view % c.1) (show 0 < c.1 by omega)
    exact ⟨hc.1, hc.2.1, by omega⟩
  · rw [if_neg hc] at h
    omega
theorem seat_up {c : Int × Int} {view i : Int} (h : 0 ≤ seatOf c view i) : seatOf c view (upOf c view i) < seatOf c view i := by
  have hf := seatOf_facts h
  have hn := confOk_n hf.1
  unfold upOf
  by_cases h0 : seatOf c view i ≤ 0
  · rw [if_pos h0, seat_neg]
    omega
  · have hd1 : 0 ≤ (seatOf c view i - 1) / c.2 := Int.ediv_nonneg (by omega) (by omega)
    have hd2 : (seatOf c view i - 1) / c.2 ≤ seatOf c view i - 1 := Int.ediv_le_self c.2 (by omega)
    rw [if_neg h0, seat_sits hf.1 hf.2.1 hd1 (by omega)]
    omega
def wayFrom (c : Int × Int) (view : Int) : Nat → Int → List Int
  | 0, _ => []
  | k + 1, i => if 0 ≤ seatOf c view i then i :: wayFrom c view k (upOf c view i) else []
def wayOf (c : Int × Int) (view i : Int) : List Int := wayFrom c view 8 i
theorem wayFrom_len (c : Int × Int) (view : Int) : ∀ (k : Nat) (i : Int), (wayFrom c view k i).length ≤ k
  | 0, _ => Nat.le_refl _
  | k + 1, i => by
    unfold wayFrom
    split
    · have := wayFrom_len c view k (upOf c view i)
      rw [List.length_cons]
      omega
    · exact Nat.zero_le _
theorem wayOf_len (c : Int × Int) (view i : Int) : (wayOf c view i).length ≤ 8 := wayFrom_len c view 8 i
theorem wayOf_bad {c : Int × Int} (h : confOk c = false) (view i : Int) : wayOf c view i = [] := by
  unfold wayOf wayFrom
  rw [if_neg (fun h0 => by rw [seatOf_conf h0] at h; cases h)]
theorem way_spec (c : Int × Int) (view : Int) {γ : Type} (κ : Ex → St → Option γ) : ∀ (k : Nat) (i : Int) (xs : List Int) (n : Nat), seatOf c view i < k → xs.length + k ≤ 1000 → k < n →
    spec_Way_1 F0 κ n (spec_Way_1_s view i c.1 c.2 xs) = κ (.exit 0) (spec_Way_1_e0 (xs ++ wayFrom c view k i))
  | 0, i, xs, n, hs, hx, hn => by
    obtain ⟨n, rfl⟩ : ∃ m, n = m + 1 := ⟨n - 1, by omega⟩
    rw [spec_Way_1_step, show ((c.1, c.2) : Int × Int) = c from rfl, Seat_law, bnd]
    dsimp only
    rw [decide_eq_false (show ¬ seatOf c view i ≥ 0 by omega), br_false, wayFrom, List.append_nil]
  | k + 1, i, xs, n, hs, hx, hn => by
    obtain ⟨n, rfl⟩ : ∃ m, n = m + 1 := ⟨n - 1, by omega⟩
    rw [spec_Way_1_step, show ((c.1, c.2) : Int × Int) = c from rfl, Seat_law, bnd]
    unfold wayFrom
    dsimp only
    by_cases h : 0 ≤ seatOf c view i
    · have hu := seat_up h
      rw [decide_eq_true (show seatOf c view i ≥ 0 from h), br_true, if_pos h, okA_le (by omega) (by omega) (by rw [List.length_singleton]; omega), ck_true, Up_law, bnd]
      dsimp only
      rw [way_spec c view κ k (upOf c view i) (xs ++ [i]) n (by omega) (by rw [List.length_append, List.length_singleton]; omega) (by omega), List.append_assoc]
      rfl
    · rw [decide_eq_false (show ¬ seatOf c view i ≥ 0 from h), br_false, if_neg h, List.append_nil]
theorem way_impl (c : Int × Int) (view : Int) {γ : Type} (κ : Ex → St → Option γ) : ∀ (k : Nat) (i : Int) (xs : List Int) (n : Nat), seatOf c view i < k → xs.length + k ≤ 1000 → k < n →
    impl_Way_1 F0 κ n (impl_Way_1_s view i c.1 c.2 xs) = κ (.exit 0) (impl_Way_1_e0 (xs ++ wayFrom c view k i))
  | 0, i, xs, n, hs, hx, hn => by
    obtain ⟨n, rfl⟩ : ∃ m, n = m + 1 := ⟨n - 1, by omega⟩
    rw [impl_Way_1_step, show ((c.1, c.2) : Int × Int) = c from rfl, Seat_law2, bnd]
    dsimp only
    rw [decide_eq_false (show ¬ seatOf c view i ≥ 0 by omega), br_false, wayFrom, List.append_nil]
  | k + 1, i, xs, n, hs, hx, hn => by
    obtain ⟨n, rfl⟩ : ∃ m, n = m + 1 := ⟨n - 1, by omega⟩
    rw [impl_Way_1_step, show ((c.1, c.2) : Int × Int) = c from rfl, Seat_law2, bnd]
    unfold wayFrom
    dsimp only
    by_cases h : 0 ≤ seatOf c view i
    · have hu := seat_up h
      rw [decide_eq_true (show seatOf c view i ≥ 0 from h), br_true, if_pos h, okA_le (by omega) (by omega) (by rw [List.length_singleton]; omega), ck_true, Up_law2, bnd]
      dsimp only
      rw [way_impl c view κ k (upOf c view i) (xs ++ [i]) n (by omega) (by rw [List.length_append, List.length_singleton]; omega) (by omega), List.append_assoc]
      rfl
    · rw [decide_eq_false (show ¬ seatOf c view i ≥ 0 from h), br_false, if_neg h, List.append_nil]
theorem Way_law (c : Int × Int) (view i : Int) : spec_Way F0 c view i = some (wayOf c view i, ()) := by
  have hs := seatOf_in c view i
  rw [spec_Way_eq, way_spec c view _ 8 i [] _ (by omega) (by rw [List.length_nil]; omega) (by rw [n_eq]; omega), spec_Way_1_ce0, List.nil_append]
  rfl
theorem Way_law2 (c : Int × Int) (view i : Int) : impl_Way F0 c view i = some (wayOf c view i, ()) := by
  have hs := seatOf_in c view i
  rw [impl_Way_eq, way_impl c view _ 8 i [] _ (by omega) (by rw [List.length_nil]; omega) (by rw [n_eq]; omega), impl_Way_1_ce0, List.nil_append]
  rfl
/-! ### What two have in common -/
def cmn (b a : List Int) : Nat := a.countP fun x => decide (x ∈ b)
theorem cmn_snoc (b a : List Int) (x : Int) : cmn b (a ++ [x]) = cmn b a + if x ∈ b then 1 else 0 := by
  unfold cmn
  rw [List.countP_append, List.countP_singleton]
  by_cases h : x ∈ b
  · simp [h]
  · simp [h]
theorem cmn_le (b a : List Int) : cmn b a ≤ a.length := List.countP_le_length
theorem Common_law {a b : List Int} (ha : a.length ≤ 1048576) (hb : b.length ≤ 1048576) : spec_Common F0 a b = some ((cmn b a : Int), ()) := by
  rw [spec_Common_eq]
  refine loop_to (fun n i (q : Int) => spec_Common_1 F0 (spec_Common_1_k F0) n (spec_Common_1_s a b q i)) a.length (fun k q => q = (cmn b (a.take k) : Int)) _ (fun n k q hk hq => .inr ⟨(cmn b (a.take (k + 1)) : Int), ?_, rfl⟩) (fun n q hq => ?_) _ 0 0 (Nat.zero_le _) rfl (by rw [n_eq]; omega)
  · have hc := cmn_le b (a.take k)
    rw [List.length_take] at hc
    rw [spec_Common_1_step, dec_lt hk, br_true, okI_nat hk, ck_true, at_isD hk, SetHas_law (by omega), bnd, take_succ_is hk, cmn_snoc, hq, w64_succ (by omega)]
    dsimp only
    rw [spec_l1Bit_eq]
    by_cases h : a[k] ∈ b
    · rw [decide_eq_true h, br_true, bnd, if_pos h]
      dsimp only
      rw [w64_succ (by omega)]
    · rw [decide_eq_false h, br_false, bnd, if_neg h]
      dsimp only
      rw [w64_in (by omega) (by omega), Int.add_zero]
      rfl
  · rw [spec_Common_1_step, dec_nlt, br_false, spec_Common_1_ce0, hq, List.take_length]
theorem Common_law2 {a b : List Int} (ha : a.length ≤ 1048576) (hb : b.length ≤ 1048576) : impl_Common F0 a b = some ((cmn b a : Int), ()) := by
  rw [impl_Common_eq]
  refine loop_to (fun n i (q : Int) => impl_Common_1 F0 (impl_Common_1_k F0) n (impl_Common_1_s b q a (a.length : Int) i)) a.length (fun k q => q = (cmn b (a.take k) : Int)) _ (fun n k q hk hq => .inr ⟨(cmn b (a.take (k + 1)) : Int), ?_, rfl⟩) (fun n q hq => ?_) _ 0 0 (Nat.zero_le _) rfl (by rw [n_eq]; omega)
  · have hc := cmn_le b (a.take k)
    rw [List.length_take] at hc
    rw [impl_Common_1_step, dec_lt hk, br_true, okI_nat hk, ck_true, at_isD hk, SetHas_law2 (by omega), bnd, take_succ_is hk, cmn_snoc, hq, w64_succ (show k + 1 ≤ 9223372036854775807 by omega)]
    dsimp only
    by_cases h : a[k] ∈ b
    · rw [decide_eq_true h, br_true, if_pos h, w64_succ (by omega)]
    · rw [decide_eq_false h, br_false, if_neg h]
      rfl
  · rw [impl_Common_1_step, dec_nlt, br_false, impl_Common_1_ce0, hq, List.take_length]
/-! ### Who is cut off -/
def cutP (c : Int × Int) (view : Int) (off : List Int) (x : Int) : Bool := decide (0 < (wayOf c view x).length) && decide (cmn off (wayOf c view x) = 0)
def cutOf (c : Int × Int) (view : Int) (who off : List Int) : List Int := (someL (w64 (c.1 - 1)) [] who).filter (cutP c view off)
theorem filter_snoc (p : Int → Bool) (l : List Int) (x : Int) : (l ++ [x]).filter p = l.filter p ++ if p x = true then [x] else [] := by
  rw [List.filter_append]
  cases h : p x <;> simp [h]
theorem cut_bad {c : Int × Int} (h : confOk c = false) (view : Int) (off l : List Int) : l.filter (cutP c view off) = [] := by
  rw [List.filter_eq_nil_iff]
  intro x _
  unfold cutP
  rw [wayOf_bad h]
  simp
theorem cutOf_len {who : List Int} (h : who.length ≤ 1048576) (c : Int × Int) (view : Int) (off : List Int) : (cutOf c view who off).length ≤ 1048576 := by
  have h1 := someL_len (w64 (c.1 - 1)) who []
  have h2 := List.length_filter_le (cutP c view off) (someL (w64 (c.1 - 1)) [] who)
  rw [List.length_nil] at h1
  unfold cutOf
  omega
theorem cut_tail {β : Type} (X : List Int → Option β) {c : Int × Int} {view x : Int} {off xs : List Int} :
    br (decide (((wayOf c view x).length : Int) > 0)) (br ((cmn off (wayOf c view x) : Int) == 0) (X (xs ++ [x])) (X xs)) (X xs) = X (xs ++ if cutP c view off x = true then [x] else []) := by
  unfold cutP
  by_cases h : 0 < (wayOf c view x).length
  · rw [decide_eq_true (show ((wayOf c view x).length : Int) > 0 by omega), br_true, decide_eq_true h, Bool.true_and]
    by_cases h2 : cmn off (wayOf c view x) = 0
    · rw [h2, decide_eq_true rfl, if_pos rfl]
      rfl
    · rw [beq_eq_false_iff_ne.2 (show (cmn off (wayOf c view x) : Int) ≠ 0 by omega), br_false, decide_eq_false h2, if_neg (by decide), List.append_nil]
  · rw [decide_eq_false (show ¬ ((wayOf c view x).length : Int) > 0 by omega), br_false, decide_eq_false h, Bool.false_and, if_neg (by decide), List.append_nil]
theorem Cut_law {who off : List Int} (hw : who.length ≤ 1048576) (ho : off.length ≤ 1048576) (c : Int × Int) (view : Int) : spec_Cut F0 c view who off = some (cutOf c view who off, ()) := by
  have hl := someL_len (w64 (c.1 - 1)) who []
  rw [List.length_nil] at hl
  rw [spec_Cut_eq, l22Some_law c hw, bnd]
  unfold cutOf
  dsimp only
  generalize someL (w64 (c.1 - 1)) [] who = s at hl ⊢
  cases hc : confOk c with
  | false =>
    rw [cut_bad hc, show F0.n = 18446744073709551615 + 1 from rfl, spec_Cut_1_step, show ((c.1, c.2) : Int × Int) = c from rfl, ConfOk_law, bnd, hc]
    dsimp only
    rw [br_false, spec_Cut_1_ce0]
    cases decide ((0 : Int) < s.length) <;> rfl
  | true =>
    refine loop_to (fun n i (xs : List Int) => spec_Cut_1 F0 (spec_Cut_1_k F0) n (spec_Cut_1_s view off i c.1 c.2 xs s)) s.length (fun k xs => xs = (s.take k).filter (cutP c view off)) _ (fun n k xs hk hx => .inr ⟨(s.take (k + 1)).filter (cutP c view off), ?_, rfl⟩) (fun n xs hx => ?_) _ 0 [] (Nat.zero_le _) rfl (by rw [n_eq]; omega)
    · have h2 := List.length_filter_le (cutP c view off) (s.take k)
      rw [← hx, List.length_take] at h2
      have hwl := wayOf_len c view s[k]
      rw [spec_Cut_1_step, dec_lt hk, br_true, show ((c.1, c.2) : Int × Int) = c from rfl, ConfOk_law, bnd, hc]
      dsimp only
      rw [br_true, okI_nat hk, ck_true, at_isD hk, Way_law, bnd, take_succ_is hk, filter_snoc, ← hx]
      dsimp only
      rw [Common_law (by omega) ho, bnd, ck_true, okA_le (by omega) (by omega) (by rw [List.length_singleton]; omega), ck_true, w64_succ (by omega)]
      exact cut_tail (fun xs => spec_Cut_1 F0 (spec_Cut_1_k F0) n (spec_Cut_1_s view off ((k + 1 : Nat) : Int) c.1 c.2 xs s))
    · rw [spec_Cut_1_step, dec_nlt, br_false, spec_Cut_1_ce0, hx, List.take_length]
theorem Cut_law2 {who off : List Int} (hw : who.length ≤ 1048576) (ho : off.length ≤ 1048576) (c : Int × Int) (view : Int) : impl_Cut F0 c view who off = some (cutOf c view who off, ()) := by
  have hl := someL_len (w64 (c.1 - 1)) who []
  rw [List.length_nil] at hl
  rw [impl_Cut_eq, replicasOf_law c hw, bnd]
  unfold cutOf
  dsimp only
  generalize someL (w64 (c.1 - 1)) [] who = s at hl ⊢
  refine loop_to (fun n i (xs : List Int) => impl_Cut_1 F0 (impl_Cut_1_k F0) n (impl_Cut_1_s view off (s.length : Int) i c.1 c.2 xs s)) s.length (fun k xs => xs = (s.take k).filter (cutP c view off)) _ (fun n k xs hk hx => .inr ⟨(s.take (k + 1)).filter (cutP c view off), ?_, rfl⟩) (fun n xs hx => ?_) _ 0 [] (Nat.zero_le _) rfl (by rw [n_eq]; omega)
  · have h2 := List.length_filter_le (cutP c view off) (s.take k)
    rw [← hx, List.length_take] at h2
    have hwl := wayOf_len c view s[k]
    rw [impl_Cut_1_step, dec_lt hk, br_true, okI_nat hk, ck_true, at_isD hk, show ((c.1, c.2) : Int × Int) = c from rfl, Way_law2, bnd, take_succ_is hk, filter_snoc, ← hx]
    dsimp only
    rw [Common_law2 (by omega) ho, bnd, okA_le (by omega) (by omega) (by rw [List.length_singleton]; omega), ck_true, w64_succ (by omega)]
    exact cut_tail (fun xs => impl_Cut_1 F0 (impl_Cut_1_k F0) n (impl_Cut_1_s view off (s.length : Int) ((k + 1 : Nat) : Int) c.1 c.2 xs s))
  · rw [impl_Cut_1_step, dec_nlt, br_false, impl_Cut_1_ce0, hx, List.take_length]
end Go.Am.Tryz
