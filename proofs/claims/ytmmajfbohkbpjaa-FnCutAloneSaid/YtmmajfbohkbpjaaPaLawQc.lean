/- Plain laws: names, quorums, certificates. No condition. -/
import Derived.Test.YtmmajfbohkbpjaaPaLawSet
set_option linter.unusedVariables false
set_option linter.unusedSimpArgs false
namespace Go.Am.Try
open Go.Am
abbrev QcD := Int × ByteArray × List Int
def nameOk (l : List UInt8) : Bool := (stepsOf l).2
def viewOf (l : List UInt8) : Int := match (stepsOf l).1.getLast? with | some s => s.1 | none => 0
theorem stepsOf_bad {l : List UInt8} (h : (stepsOf l).2 = false) : (stepsOf l).1 = [] := by
  unfold stepsOf at h ⊢
  split
  · rfl
  · rename_i h0
    rw [if_neg h0] at h
    split
    · rfl
    · rename_i hp
      rw [hp] at h
      dsimp only at h
      split
      · rfl
      · rename_i h1
        rw [if_neg h1] at h
        split
        · rfl
        · rename_i hr
          rw [hr] at h
          cases h
theorem NameOk_law {l : List UInt8} (h : l.length ≤ 1073741824) : spec_NameOk F0 (tx l) = some (nameOk l, ()) := by
  rw [spec_NameOk_eq, Steps_law h, bnd]
  rfl
theorem last_view (ss : List StepD) (hlen : ss.length ≤ 30) (d : StepD := (0, [])) : br ((ss.length : Int) == 0) (some ((0 : Int), ())) (ck (okI (w64 ((ss.length : Int) - 1)) (ss.length : Int)) (some ((at_ ss (w64 ((ss.length : Int) - 1)) d).1, ()))) = some ((match ss.getLast? with | some s => s.1 | none => 0), ()) := by
  cases hs : ss with
  | nil => rfl
  | cons s r =>
    rw [← hs]
    have h0 : ss.length ≠ 0 := by rw [hs]; simp
    have h1 : ((ss.length : Int) == 0) = false := beq_eq_false_iff_ne.2 (by omega)
    have h2 : w64 ((ss.length : Int) - 1) = ((ss.length - 1 : Nat) : Int) := by rw [w64_in (by omega) (by omega)]; omega
    rw [h1, br_false, h2, okI_nat (by omega), ck_true, at_is (by omega), List.getLast?_eq_getElem?, List.getElem?_eq_getElem (by omega)]
theorem ViewOf_law {l : List UInt8} (h : l.length ≤ 1073741824) : spec_ViewOf F0 (tx l) = some (viewOf l, ()) := by
  rw [spec_ViewOf_eq, Steps_law h, bnd]
  dsimp only
  cases hb : (stepsOf l).2 with
  | true =>
    rw [Bool.not_true, br_false]
    exact last_view _ (stepsOf_len l)
  | false =>
    rw [Bool.not_false, br_true]
    unfold viewOf
    rw [stepsOf_bad hb]
    rfl
theorem viewOf_ok (l : List UInt8) : 0 ≤ viewOf l ∧ viewOf l ≤ 60 := by
  unfold viewOf
  split
  · rename_i s hs
    have := stepsOf_ok l s (List.mem_of_getLast? hs)
    exact ⟨this.1, this.2.1⟩
  · omega
/-! ### Quorums -/
def confOk (c : Int × Int) : Bool := inR 4 7 c.1 && inR 1 6 c.2
theorem ConfOk_law (c : Int × Int) : spec_ConfOk F0 c = some (confOk c, ()) := by
  rw [spec_ConfOk_eq, l1In_lawR, bnd, l1In_lawR, bnd]
  unfold confOk
  dsimp only
  cases inR 4 7 c.1 <;> rfl
theorem ConfOk_law2 (c : Int × Int) : impl_ConfOk F0 c = some (confOk c, ()) := by
  rw [impl_ConfOk_eq, within_law3, bnd, within_law3, bnd]
  unfold confOk
  dsimp only
  cases inR 4 7 c.1 <;> rfl
theorem confOk_n {c : Int × Int} (h : confOk c = true) : 4 ≤ c.1 ∧ c.1 ≤ 7 ∧ 1 ≤ c.2 ∧ c.2 ≤ 6 := by
  unfold confOk inR at h
  simp only [Bool.and_eq_true, decide_eq_true_eq] at h
  omega
theorem third {n : Int} (h1 : 4 ≤ n) (h2 : n ≤ 7) : 1 ≤ Int.tdiv (n - 1) 3 ∧ Int.tdiv (n - 1) 3 ≤ 2 := by
  have : n = 4 ∨ n = 5 ∨ n = 6 ∨ n = 7 := by omega
  rcases this with rfl | rfl | rfl | rfl <;> decide
def faults (c : Int × Int) : Int := if confOk c = true then Int.tdiv (c.1 - 1) 3 else 0
def quorum (c : Int × Int) : Int := if confOk c = true then c.1 - Int.tdiv (c.1 - 1) 3 else 0
/-! ### Sets in order -/
def setOk (n : Int) (s : List Int) : Bool := (List.range s.length).all fun k => decide (0 ≤ s.getD k 0) && (decide (s.getD k 0 < n) && (decide (k = 0) || decide (s.getD (k - 1) 0 < s.getD k 0)))
theorem setOk_step {β : Type} {n : Int} {s : List Int} {k : Nat} (hk : k < s.length) (x y : Option β) :
    br (decide (s.getD k 0 < 0)) x (br (decide (s.getD k 0 ≥ n)) x (br (decide ((k : Int) > 0)) (br (decide (s.getD (k - 1) 0 ≥ s.getD k 0)) x y) y)) =
    if (decide (0 ≤ s.getD k 0) && (decide (s.getD k 0 < n) && (decide (k = 0) || decide (s.getD (k - 1) 0 < s.getD k 0)))) = true then y else x := by
  generalize s.getD k 0 = a
  generalize s.getD (k - 1) 0 = b
  by_cases h1 : a < 0
  · rw [decide_eq_true h1, br_true, decide_eq_false (show ¬ 0 ≤ a by omega)]
    rfl
  · rw [decide_eq_false h1, br_false, decide_eq_true (show 0 ≤ a by omega), Bool.true_and]
    by_cases h2 : a ≥ n
    · rw [decide_eq_true h2, br_true, decide_eq_false (show ¬ a < n by omega)]
      rfl
    · rw [decide_eq_false h2, br_false, decide_eq_true (show a < n by omega), Bool.true_and]
      by_cases h3 : k = 0
      · subst h3
        rfl
      · rw [decide_eq_true (show (k : Int) > 0 by omega), br_true, decide_eq_false h3, Bool.false_or]
        by_cases h4 : b ≥ a
        · rw [decide_eq_true h4, br_true, decide_eq_false (show ¬ b < a by omega)]
          rfl
        · rw [decide_eq_false h4, br_false, decide_eq_true (show b < a by omega)]
          rfl
theorem w64_pred {k : Nat} (h0 : 0 < k) (h : k ≤ 9223372036854775807) : w64 ((k : Int) - 1) = ((k - 1 : Nat) : Int) := by rw [w64_in (by omega) (by omega)]; omega
/-! ### Certificates -/
def qcOk (c : Int × Int) (q : Int × List UInt8 × List Int) : Bool := confOk c && (nameOk q.2.1 && (decide (viewOf q.2.1 = q.1) && (if q.2.1 = [] then decide (q.2.2 = []) else setOk c.1 q.2.2 && decide ((q.2.2.length : Int) ≥ quorum c))))
theorem nil_tx : ByteArray.mk #[] = tx [] := rfl
theorem parts_one {c : UInt8} {l : List UInt8} (h : parts c l = [[]]) : l = [] := by
  cases l with
  | nil => rfl
  | cons x l =>
    unfold parts at h
    split at h
    · exact absurd (List.cons.inj h).2 (parts_ne c l)
    · split at h
      · cases (List.cons.inj h).1
      · cases (List.cons.inj h).1
theorem allF_inv {σ β : Type} {f : σ → List UInt8 → Option (σ × β)} {I : σ → Prop} {Q : β → Prop} (hf : ∀ s p s' b, I s → f s p = some (s', b) → Q b ∧ I s') : ∀ {l : List (List UInt8)} {s : σ} {r : List β}, I s → allF f s l = some r → ∀ b ∈ r, Q b
  | [], s, r, _, h, b, hb => by
    cases h
    cases hb
  | p :: l, s, r, hI, h, b, hb => by
    unfold allF at h
    cases hp : f s p with
    | none => rw [hp] at h; cases h
    | some x =>
      obtain ⟨s', b'⟩ := x
      rw [hp] at h
      obtain ⟨h1, h2⟩ := hf s p s' b' hI hp
      dsimp only at h
      cases hr : allF f s' l with
      | none => rw [hr] at h; cases h
      | some r' =>
        rw [hr] at h
        cases h
        rcases List.mem_cons.1 hb with rfl | hb
        · exact h1
        · exact allF_inv hf h2 hr b hb
theorem stepsOf_view {l : List UInt8} : ∀ s ∈ (stepsOf l).1, 1 ≤ s.1 := by
  unfold stepsOf
  split
  · simp
  · split
    · simp
    · split
      · simp
      · split
        · simp
        · rename_i hr
          refine allF_inv (I := fun s => 0 ≤ s) (Q := fun b => 1 ≤ b.1) (fun s p s' b hs hf => ?_) (by omega) hr
          obtain ⟨h1, h2⟩ := stepF_ok hf
          unfold stepF at hf
          split at hf
          · rename_i hc
            cases hf
            exact ⟨by have := hc.2.2.2.1; show 1 ≤ _; omega, by have := hc.2.2.2.1; omega⟩
          · cases hf
theorem stepsOf_ne {l : List UInt8} (h : nameOk l = true) (h0 : l ≠ []) : (stepsOf l).1 ≠ [] := by
  unfold nameOk at h
  unfold stepsOf at h ⊢
  rw [if_neg h0] at h ⊢
  cases hp : parts 47 l with
  | nil => rw [hp] at h; cases h
  | cons p0 ps =>
    rw [hp] at h
    dsimp only at h ⊢
    split
    · rename_i h1
      rw [if_pos h1] at h
      cases h
    · rename_i h1
      rw [if_neg h1] at h
      have hp0 : p0 = [] := Classical.byContradiction fun hne => h1 (.inl hne)
      cases hr : allF stepF 0 ps with
      | none => rw [hr] at h; cases h
      | some r =>
        dsimp only
        intro hr0
        have hl := allF_len hr
        rw [hr0] at hl
        have : ps = [] := List.eq_nil_of_length_eq_zero hl.symm
        subst this hp0
        exact h0 (parts_one hp)
theorem viewOf_pos {l : List UInt8} (h : nameOk l = true) (h0 : l ≠ []) : 1 ≤ viewOf l := by
  have hne := stepsOf_ne h h0
  unfold viewOf
  cases hs : (stepsOf l).1.getLast? with
  | none => exact absurd (List.getLast?_eq_none_iff.1 hs) hne
  | some s => exact stepsOf_view s (List.mem_of_getLast? hs)
theorem viewOf_nil : viewOf [] = 0 := rfl
theorem nameOk_nil : nameOk [] = true := rfl
/-- The program's own word for a right certificate is the reference's. -/
theorem qcOk_alt (c : Int × Int) (v : Int) (l : List UInt8) (s : List Int) :
    (confOk c && (((v == 0) && (decide (l = []) && decide (s = []))) || (decide (v ≥ 1) && (nameOk l && ((v == viewOf l) && (setOk c.1 s && decide ((s.length : Int) ≥ quorum c))))))) = qcOk c (v, l, s) := by
  unfold qcOk
  dsimp only
  cases hc : confOk c with
  | false => rfl
  | true =>
    rw [Bool.true_and, Bool.true_and]
    by_cases h0 : l = []
    · subst h0
      rw [viewOf_nil, nameOk_nil, if_pos rfl, decide_eq_true rfl, Bool.true_and, Bool.true_and, Bool.true_and]
      by_cases hv : v = 0
      · subst hv
        rw [beq_self_eq_true, decide_eq_true rfl, decide_eq_false (show ¬ (0 : Int) ≥ 1 by omega), Bool.false_and, Bool.or_false]
      · rw [beq_eq_false_iff_ne.2 hv, decide_eq_false (show ¬ (0 : Int) = v from fun h => hv h.symm)]
        simp
    · rw [decide_eq_false h0, Bool.false_and, Bool.and_false, Bool.false_or, if_neg h0]
      cases hn : nameOk l with
      | false => rw [Bool.false_and, Bool.false_and, Bool.and_false]
      | true =>
        have := viewOf_pos hn h0
        by_cases hv : v = viewOf l
        · rw [decide_eq_true (show v ≥ 1 by omega), beq_iff_eq.2 hv, decide_eq_true hv.symm]
          rfl
        · rw [beq_eq_false_iff_ne.2 hv, decide_eq_false (show ¬ viewOf l = v from fun h => hv h.symm)]
          simp
/-! ### Parts -/
def partQc (c : Int × Int) (p : Int × List UInt8 × List Int) : Option (Int × List UInt8 × List Int) := if p.2.1 ≠ [] ∧ qcOk c p = true then some p else none
def qcOut (o : Option (Int × List UInt8 × List Int)) : QcD × Bool := match o with
  | some q => ((q.1, tx q.2.1, q.2.2), true)
  | none => ((0, tx [], []), false)
theorem qcOk_view {c : Int × Int} {v : Int} {l : List UInt8} {s : List Int} (h : qcOk c (v, l, s) = true) : (v == 0) = decide (l = []) := by
  unfold qcOk at h
  simp only [Bool.and_eq_true, decide_eq_true_eq] at h
  obtain ⟨_, h1, h2, _⟩ := h
  by_cases h0 : l = []
  · subst h0
    rw [← h2]
    rfl
  · have := viewOf_pos h1 h0
    rw [decide_eq_false h0]
    exact beq_eq_false_iff_ne.2 (by omega)
end Go.Am.Try
