/- Plain laws. No condition. -/
import Derived.Test.YtkkgagllehdhhaaGreatDoorZlLawA
import Derived.Test.YtkkgagllehdhhaaGreatDoorAmData
set_option linter.unusedVariables false
set_option linter.unusedSimpArgs false
namespace Go.Am.Tryz
open Go.Am
/-! ### Searches -/
theorem all_to {β : Type} (X : Nat → Int → Option β) (L : Nat) (p : Nat → Bool) (Rt Rf : Option β) (hs : ∀ n k, k < L → X (n + 1) (k : Int) = if p k = true then X n ((k + 1 : Nat) : Int) else Rf) (he : ∀ n, X (n + 1) (L : Int) = Rt) (n : Nat) (hn : L < n) :
    X n 0 = if (List.range L).all p = true then Rt else Rf := by
  refine loop_to (fun n i (_ : Unit) => X n i) L (fun k _ => ∀ j, j < k → p j = true) _ (fun n k _ hk h => ?_) (fun n _ h => ?_) n 0 () (Nat.zero_le _) (fun j hj => absurd hj (Nat.not_lt_zero _)) (by omega)
  · try dsimp only
    rw [hs n k hk]
    by_cases hp : p k = true
    · rw [if_pos hp]
      refine .inr ⟨(), rfl, fun j hj => ?_⟩
      by_cases hjk : j = k
      · exact hjk ▸ hp
      · exact h j (by omega)
    · rw [if_neg hp, if_neg]
      · exact .inl rfl
      · intro ha
        exact hp (List.all_eq_true.1 ha k (List.mem_range.2 hk))
  · try dsimp only
    rw [he, if_pos]
    exact List.all_eq_true.2 fun j hj => h j (List.mem_range.1 hj)
theorem all_getD {α : Type} (s : List α) (q : α → Bool) (d : α) : (List.range s.length).all (fun k => q (s.getD k d)) = s.all q := by
  rw [Bool.eq_iff_iff, List.all_eq_true, List.all_eq_true]
  constructor
  · intro h x hx
    obtain ⟨i, hi, rfl⟩ := List.mem_iff_getElem.1 hx
    have := h i (List.mem_range.2 hi)
    simpa [List.getD, hi] using this
  · intro h k hk
    exact h _ (getD_mem (List.mem_range.1 hk) d)
theorem all_ne (s : List Int) (i : Int) : (s.all fun x => !(x == i)) = !decide (i ∈ s) := by
  rw [Bool.eq_iff_iff, List.all_eq_true]
  simp only [Bool.not_eq_true', beq_eq_false_iff_ne, decide_eq_false_iff_not]
  exact ⟨fun h hi => h i hi rfl, fun h x hx e => h (e ▸ hx)⟩
theorem ite_not (b : Bool) {α : Type} (x y : α) : (if (!b) = true then x else y) = if b = true then y else x := by cases b <;> rfl
theorem br_ite {α : Type} (b : Bool) (x y : α) : br b x y = if b = true then x else y := by cases b <;> rfl
theorem SetHas_law {s : List Int} (h : s.length ≤ 1073741824) (i : Int) : spec_SetHas F0 s i = some (decide (i ∈ s), ()) := by
  rw [spec_SetHas_eq, all_to (fun n k => spec_SetHas_1 F0 (spec_SetHas_1_k F0) n (spec_SetHas_1_s s i k)) s.length (fun k => !(s.getD k 0 == i)) (some (false, ())) (some (true, ())) (fun n k hk => ?_) (fun n => ?_) _ (by rw [n_eq]; omega),
    all_getD s (fun x => !(x == i)), all_ne, ite_not]
  · by_cases hm : i ∈ s <;> simp [hm]
  · rw [spec_SetHas_1_step, dec_lt hk, br_true, okI_nat hk, ck_true, at_nat, w64_succ (by omega), ite_not, br_ite, spec_SetHas_1_cr]
  · rw [spec_SetHas_1_step, dec_nlt, br_false, spec_SetHas_1_ce0]
theorem Contains_law {s : List Int} (h : s.length ≤ 1073741824) (i : Int) : slices_Contains_int_int F0 s i = some (decide (i ∈ s), ()) := by
  have key : ∃ j, slices_Index_int_int F0 s i = some (j, ()) ∧ decide (j ≥ 0) = decide (i ∈ s) := by
    rw [slices_Index_int_int_eq]
    have := loop_to (fun n k (_ : Unit) => slices_Index_int_int_1 F0 (slices_Index_int_int_1_k F0) n (slices_Index_int_int_1_s s i (s.length : Int) k)) s.length (fun k _ => ∀ j, j < k → s.getD j 0 ≠ i)
      (some ((if i ∈ s then ((s.idxOf i : Nat) : Int) else -1), ())) (fun n k _ hk hI => ?_) (fun n _ hI => ?_) F0.n 0 () (Nat.zero_le _) (fun j hj => absurd hj (Nat.not_lt_zero _)) (by rw [n_eq]; omega)
    · refine ⟨_, this, ?_⟩
      by_cases hm : i ∈ s
      · rw [if_pos hm, decide_eq_true hm]
        exact decide_eq_true (Int.natCast_nonneg _)
      · rw [if_neg hm, decide_eq_false hm]
        rfl
    · try dsimp only
      rw [slices_Index_int_int_1_step, dec_lt hk, br_true, okI_nat hk, ck_true, at_nat, w64_succ (by omega), slices_Index_int_int_1_cr]
      by_cases he : i = s.getD k 0
      · left
        have hm : i ∈ s := he ▸ getD_mem hk 0
        rw [beq_iff_eq.2 he, br_true, if_pos hm]
        have hx : s.idxOf i = k := by
          have h1 : s.idxOf i < s.length := List.idxOf_lt_length_of_mem hm
          have h2 : s.getD (s.idxOf i) 0 = i := by simp [List.getD, h1]
          rcases Nat.lt_trichotomy (s.idxOf i) k with hlt | heq | hgt
          · exact absurd h2 (hI _ hlt)
          · exact heq
          · have := List.not_of_lt_findIdx (p := (· == i)) (xs := s) hgt
            have h3 : s[k]'(by omega) = i := by
              rw [he]
              simp [List.getD, hk]
            simp [h3] at this
        rw [hx]
      · right
        rw [beq_eq_false_iff_ne.2 he, br_false]
        refine ⟨(), rfl, fun j hj => ?_⟩
        by_cases hjk : j = k
        · exact fun e => he (hjk ▸ e.symm)
        · exact hI j (by omega)
    · try dsimp only
      have hm : i ∉ s := by
        intro hm
        obtain ⟨j, hj, e⟩ := List.mem_iff_getElem.1 hm
        exact hI j hj (by simp [List.getD, hj, e])
      rw [slices_Index_int_int_1_step, dec_nlt, br_false, slices_Index_int_int_1_ce0, if_neg hm]
  obtain ⟨j, h1, h2⟩ := key
  rw [slices_Contains_int_int_eq, h1, bnd, h2]
theorem SetHas_law2 {s : List Int} (h : s.length ≤ 1073741824) (i : Int) : impl_SetHas F0 s i = some (decide (i ∈ s), ()) := by
  rw [impl_SetHas_eq, Contains_law h, bnd]
/-! ### Adding -/
theorem okS_nat {l h n : Nat} (h1 : l ≤ h) (h2 : h ≤ n) : okS (l : Int) (h : Int) (n : Int) = true := by simp [okS]; omega
/-! ### The replicas that are named -/
def inR (lo hi x : Int) : Bool := decide (lo ≤ x) && decide (x ≤ hi)
theorem l1In_lawR (x lo hi : Int) : spec_l1In F0 x lo hi = some (inR lo hi x, ()) := l1In_law x lo hi
theorem within_law3 (x lo hi : Int) : impl_within F0 x lo hi = some (inR lo hi x, ()) := within_law x lo hi
theorem take_succ_is {α : Type} {l : List α} {k : Nat} (h : k < l.length) : l.take (k + 1) = l.take k ++ [l[k]] := by
  rw [List.take_add_one, List.getElem?_eq_getElem h]
  rfl
end Go.Am.Tryz
set_option linter.unusedVariables false
set_option linter.unusedSimpArgs false
namespace Go.Am.Tryz
open Go.Am
abbrev QcD := Int × ByteArray × List Int
def nameOk (l : List UInt8) : Bool := (stepsOf l).2
def viewOf (l : List UInt8) : Int := match (stepsOf l).1.getLast? with | some s => s.1 | none => 0
theorem stepsOf_bad {l : List UInt8} (h : (stepsOf l).2 = false) : (stepsOf l).1 = [] := by
  unfold stepsOf at h ⊢
  split
  · rfl
  · rename_i h0
    rw [if_neg h0] at h
    split
    · rfl
    · rename_i hp
      rw [hp] at h
      dsimp only at h
      split
      · rfl
      · rename_i h1
        rw [if_neg h1] at h
        split
        · rfl
        · rename_i hr
          rw [hr] at h
          cases h
theorem NameOk_law {l : List UInt8} (h : l.length ≤ 1073741824) : spec_NameOk F0 (tx l) = some (nameOk l, ()) := by
  rw [spec_NameOk_eq, Steps_law h, bnd]
  rfl
theorem NameOk_law2 {l : List UInt8} (h : l.length ≤ 1073741824) : impl_NameOk F0 (tx l) = some (nameOk l, ()) := by
  rw [impl_NameOk_eq, Steps_law2 h, bnd]
  rfl
theorem last_view (ss : List StepD) (hlen : ss.length ≤ 30) (d : StepD := (0, [])) : br ((ss.length : Int) == 0) (some ((0 : Int), ())) (ck (okI (w64 ((ss.length : Int) - 1)) (ss.length : Int)) (some ((at_ ss (w64 ((ss.length : Int) - 1)) d).1, ()))) = some ((match ss.getLast? with | some s => s.1 | none => 0), ()) := by
  cases hs : ss with
  | nil => rfl
  | cons s r =>
    rw [← hs]
    have h0 : ss.length ≠ 0 := by rw [hs]; simp
    have h1 : ((ss.length : Int) == 0) = false := beq_eq_false_iff_ne.2 (by omega)
    have h2 : w64 ((ss.length : Int) - 1) = ((ss.length - 1 : Nat) : Int) := by rw [w64_in (by omega) (by omega)]; omega
    rw [h1, br_false, h2, okI_nat (by omega), ck_true, at_is (by omega), List.getLast?_eq_getElem?, List.getElem?_eq_getElem (by omega)]
theorem ViewOf_law {l : List UInt8} (h : l.length ≤ 1073741824) : spec_ViewOf F0 (tx l) = some (viewOf l, ()) := by
  rw [spec_ViewOf_eq, Steps_law h, bnd]
  dsimp only
  cases hb : (stepsOf l).2 with
  | true =>
    rw [Bool.not_true, br_false]
    exact last_view _ (stepsOf_len l)
  | false =>
    rw [Bool.not_false, br_true]
    unfold viewOf
    rw [stepsOf_bad hb]
    rfl
theorem ViewOf_law2 {l : List UInt8} (h : l.length ≤ 1073741824) : impl_ViewOf F0 (tx l) = some (viewOf l, ()) := by
  rw [impl_ViewOf_eq, Steps_law2 h, bnd]
  exact last_view _ (stepsOf_len l)
/-! ### Quorums -/
def confOk (c : Int × Int) : Bool := inR 4 7 c.1 && inR 1 6 c.2
theorem ConfOk_law (c : Int × Int) : spec_ConfOk F0 c = some (confOk c, ()) := by
  rw [spec_ConfOk_eq, l1In_lawR, bnd, l1In_lawR, bnd]
  unfold confOk
  dsimp only
  cases inR 4 7 c.1 <;> rfl
theorem ConfOk_law2 (c : Int × Int) : impl_ConfOk F0 c = some (confOk c, ()) := by
  rw [impl_ConfOk_eq, within_law3, bnd, within_law3, bnd]
  unfold confOk
  dsimp only
  cases inR 4 7 c.1 <;> rfl
theorem confOk_n {c : Int × Int} (h : confOk c = true) : 4 ≤ c.1 ∧ c.1 ≤ 7 ∧ 1 ≤ c.2 ∧ c.2 ≤ 6 := by
  unfold confOk inR at h
  simp only [Bool.and_eq_true, decide_eq_true_eq] at h
  omega
theorem third {n : Int} (h1 : 4 ≤ n) (h2 : n ≤ 7) : 1 ≤ Int.tdiv (n - 1) 3 ∧ Int.tdiv (n - 1) 3 ≤ 2 := by
  have : n = 4 ∨ n = 5 ∨ n = 6 ∨ n = 7 := by omega
  rcases this with rfl | rfl | rfl | rfl <;> decide
def faults (c : Int × Int) : Int := if confOk c = true then Int.tdiv (c.1 - 1) 3 else 0
def quorum (c : Int × Int) : Int := if confOk c = true then c.1 - Int.tdiv (c.1 - 1) 3 else 0
theorem Faults_law2 (c : Int × Int) : impl_Faults F0 c = some (faults c, ()) := by
  rw [impl_Faults_eq, ConfOk_law2, bnd]
  unfold faults
  dsimp only
  cases h : confOk c with
  | false => rfl
  | true =>
    have := confOk_n h
    have h3 := third this.1 this.2.1
    have e : w64 (c.1 - 1) = c.1 - 1 := w64_in (by omega) (by omega)
    rw [Bool.not_true, br_false, e, w64_in (by omega) (by omega), if_pos rfl]
theorem Quorum_law2 (c : Int × Int) : impl_Quorum F0 c = some (quorum c, ()) := by
  rw [impl_Quorum_eq, ConfOk_law2, bnd, Faults_law2, bnd]
  unfold quorum faults
  dsimp only
  cases h : confOk c with
  | false => rfl
  | true =>
    have := confOk_n h
    have h3 := third this.1 this.2.1
    rw [Bool.not_true, br_false, if_pos rfl, if_pos rfl, w64_in (by omega) (by omega)]
theorem Quorum_law (c : Int × Int) : spec_Quorum F0 c = some (quorum c, ()) := by
  rw [spec_Quorum_eq, ConfOk_law, bnd]
  unfold quorum
  dsimp only
  cases h : confOk c with
  | false => rfl
  | true =>
    have := confOk_n h
    have h3 := third this.1 this.2.1
    have e : w64 (c.1 - 1) = c.1 - 1 := w64_in (by omega) (by omega)
    rw [Bool.not_true, br_false, e, w64_in (n := Int.tdiv (c.1 - 1) 3) (by omega) (by omega), w64_in (by omega) (by omega), if_pos rfl]
/-! ### Sets in order -/
def setOk (n : Int) (s : List Int) : Bool := (List.range s.length).all fun k => decide (0 ≤ s.getD k 0) && (decide (s.getD k 0 < n) && (decide (k = 0) || decide (s.getD (k - 1) 0 < s.getD k 0)))
theorem setOk_step {β : Type} {n : Int} {s : List Int} {k : Nat} (hk : k < s.length) (x y : Option β) :
    br (decide (s.getD k 0 < 0)) x (br (decide (s.getD k 0 ≥ n)) x (br (decide ((k : Int) > 0)) (br (decide (s.getD (k - 1) 0 ≥ s.getD k 0)) x y) y)) =
    if (decide (0 ≤ s.getD k 0) && (decide (s.getD k 0 < n) && (decide (k = 0) || decide (s.getD (k - 1) 0 < s.getD k 0)))) = true then y else x := by
  generalize s.getD k 0 = a
  generalize s.getD (k - 1) 0 = b
  by_cases h1 : a < 0
  · rw [decide_eq_true h1, br_true, decide_eq_false (show ¬ 0 ≤ a by omega)]
    rfl
  · rw [decide_eq_false h1, br_false, decide_eq_true (show 0 ≤ a by omega), Bool.true_and]
    by_cases h2 : a ≥ n
    · rw [decide_eq_true h2, br_true, decide_eq_false (show ¬ a < n by omega)]
      rfl
    · rw [decide_eq_false h2, br_false, decide_eq_true (show a < n by omega), Bool.true_and]
      by_cases h3 : k = 0
      · subst h3
        rfl
      · rw [decide_eq_true (show (k : Int) > 0 by omega), br_true, decide_eq_false h3, Bool.false_or]
        by_cases h4 : b ≥ a
        · rw [decide_eq_true h4, br_true, decide_eq_false (show ¬ b < a by omega)]
          rfl
        · rw [decide_eq_false h4, br_false, decide_eq_true (show b < a by omega)]
          rfl
theorem w64_pred {k : Nat} (h0 : 0 < k) (h : k ≤ 9223372036854775807) : w64 ((k : Int) - 1) = ((k - 1 : Nat) : Int) := by rw [w64_in (by omega) (by omega)]; omega
theorem SetOk_law {s : List Int} (h : s.length ≤ 1073741824) (n : Int) : spec_SetOk F0 n s = some (setOk n s, ()) := by
  rw [spec_SetOk_eq, all_to (fun m k => spec_SetOk_1 F0 (spec_SetOk_1_k F0) m (spec_SetOk_1_s n s k)) s.length (fun k => decide (0 ≤ s.getD k 0) && (decide (s.getD k 0 < n) && (decide (k = 0) || decide (s.getD (k - 1) 0 < s.getD k 0)))) (some (true, ())) (some (false, ())) (fun m k hk => ?_) (fun m => ?_) _ (by rw [n_eq]; omega)]
  · show (if setOk n s = true then _ else _) = _
    cases setOk n s <;> rfl
  · rw [spec_SetOk_1_step, dec_lt hk, br_true, okI_nat hk, ck_true, at_nat, spec_SetOk_1_cr, ck_true, w64_succ (by omega)]
    by_cases h0 : k = 0
    · subst h0
      rw [← setOk_step hk]
      rfl
    · rw [w64_pred (by omega) (by omega), okI_nat (show k - 1 < s.length by omega), ck_true, ck_true, at_nat, ← setOk_step hk]
  · rw [spec_SetOk_1_step, dec_nlt, br_false, spec_SetOk_1_ce0]
theorem SetOk_law2 {s : List Int} (h : s.length ≤ 1073741824) (n : Int) : impl_SetOk F0 n s = some (setOk n s, ()) := by
  rw [impl_SetOk_eq, all_to (fun m k => impl_SetOk_1 F0 (impl_SetOk_1_k F0) m (impl_SetOk_1_s n s s (s.length : Int) k)) s.length (fun k => decide (0 ≤ s.getD k 0) && (decide (s.getD k 0 < n) && (decide (k = 0) || decide (s.getD (k - 1) 0 < s.getD k 0)))) (some (true, ())) (some (false, ())) (fun m k hk => ?_) (fun m => ?_) _ (by rw [n_eq]; omega)]
  · show (if setOk n s = true then _ else _) = _
    cases setOk n s <;> rfl
  · rw [impl_SetOk_1_step, dec_lt hk, br_true, okI_nat hk, ck_true, at_nat, impl_SetOk_1_cr, w64_succ (by omega)]
    by_cases h0 : k = 0
    · subst h0
      rw [← setOk_step hk]
      rfl
    · rw [w64_pred (by omega) (by omega), okI_nat (show k - 1 < s.length by omega), ck_true, at_nat, ← setOk_step hk]
  · rw [impl_SetOk_1_step, dec_nlt, br_false, impl_SetOk_1_ce0]
/-! ### Certificates -/
theorem Equal_law {a b : List Int} (h : a.length ≤ 1073741824) : slices_Equal_int_int F0 a b = some (decide (a = b), ()) := by
  rw [slices_Equal_int_int_eq]
  by_cases hl : a.length = b.length
  · have e : ((a.length : Int) != (b.length : Int)) = false := by rw [hl]; exact bne_self_eq_false (b.length : Int)
    rw [e, br_false, all_to (fun m k => slices_Equal_int_int_1 F0 (slices_Equal_int_int_1_k F0) m (slices_Equal_int_int_1_s a b (a.length : Int) k)) a.length (fun k => a.getD k 0 == b.getD k 0) (some (true, ())) (some (false, ())) (fun m k hk => ?_) (fun m => ?_) _ (by rw [n_eq]; omega)]
    · by_cases hab : a = b
      · rw [decide_eq_true hab, if_pos (List.all_eq_true.2 fun k _ => by rw [hab]; exact beq_self_eq_true (b.getD k 0))]
      · rw [decide_eq_false hab, if_neg]
        intro hall
        refine hab (List.ext_getElem hl fun k h1 h2 => ?_)
        have := List.all_eq_true.1 hall k (List.mem_range.2 h1)
        simpa [List.getD, h1, h2] using this
    · rw [slices_Equal_int_int_1_step, dec_lt hk, br_true, okI_nat hk, ck_true, okI_nat (hl ▸ hk), ck_true, at_nat, at_nat, slices_Equal_int_int_1_cr, w64_succ (by omega), br_ite]
      by_cases h3 : a.getD k 0 = b.getD k 0
      · simp [h3]
      · simp [h3]
    · rw [slices_Equal_int_int_1_step, dec_nlt, br_false, slices_Equal_int_int_1_ce0]
  · have e : ((a.length : Int) != (b.length : Int)) = true := bne_iff_ne.2 (by omega)
    rw [e, br_true, decide_eq_false (fun hab => hl (by rw [hab]))]
def qcOk (c : Int × Int) (q : Int × List UInt8 × List Int) : Bool := confOk c && (nameOk q.2.1 && (decide (viewOf q.2.1 = q.1) && (if q.2.1 = [] then decide (q.2.2 = []) else setOk c.1 q.2.2 && decide ((q.2.2.length : Int) ≥ quorum c))))
theorem nil_tx : ByteArray.mk #[] = tx [] := rfl
theorem QcSame_law {v v' : Int} {a b : List UInt8} {s t : List Int} (h : s.length ≤ 1073741824) : impl_QcSame F0 (v, tx a, s) (v', tx b, t) = some ((v == v') && (decide (a = b) && decide (s = t)), ()) := by
  rw [impl_QcSame_eq]
  dsimp only
  rw [tl_eq, Equal_law h, bnd]
  cases (v == v') <;> cases decide (a = b) <;> rfl
theorem QcOk_law {v : Int} {l : List UInt8} {s : List Int} (hl : l.length ≤ 1073741824) (hs : s.length ≤ 1073741824) (c : Int × Int) : spec_QcOk F0 c (v, tx l, s) = some (qcOk c (v, l, s), ()) := by
  rw [spec_QcOk_eq, ConfOk_law, bnd]
  unfold qcOk
  dsimp only
  rw [NameOk_law hl, bnd, ViewOf_law hl, bnd, SetOk_law hs, bnd, Quorum_law, bnd, nil_tx, tl_eq]
  cases confOk c with
  | false => rfl
  | true =>
    cases nameOk l with
    | false => rfl
    | true =>
      by_cases hv : viewOf l = v
      · rw [decide_eq_true hv, show (viewOf l != v) = false by rw [hv]; exact bne_self_eq_false v]
        by_cases h0 : l = []
        · rw [decide_eq_true h0, if_pos h0]
          cases s with
          | nil => rfl
          | cons x r => rfl
        · rw [decide_eq_false h0, if_neg h0]
          cases setOk c.1 s <;> rfl
      · rw [decide_eq_false hv, show (viewOf l != v) = true from bne_iff_ne.2 hv]
        rfl
theorem parts_one {c : UInt8} {l : List UInt8} (h : parts c l = [[]]) : l = [] := by
  cases l with
  | nil => rfl
  | cons x l =>
    unfold parts at h
    split at h
    · exact absurd (List.cons.inj h).2 (parts_ne c l)
    · split at h
      · cases (List.cons.inj h).1
      · cases (List.cons.inj h).1
theorem allF_inv {σ β : Type} {f : σ → List UInt8 → Option (σ × β)} {I : σ → Prop} {Q : β → Prop} (hf : ∀ s p s' b, I s → f s p = some (s', b) → Q b ∧ I s') : ∀ {l : List (List UInt8)} {s : σ} {r : List β}, I s → allF f s l = some r → ∀ b ∈ r, Q b
  | [], s, r, _, h, b, hb => by
    cases h
    cases hb
  | p :: l, s, r, hI, h, b, hb => by
    unfold allF at h
    cases hp : f s p with
    | none => rw [hp] at h; cases h
    | some x =>
      obtain ⟨s', b'⟩ := x
      rw [hp] at h
      obtain ⟨h1, h2⟩ := hf s p s' b' hI hp
      dsimp only at h
      cases hr : allF f s' l with
      | none => rw [hr] at h; cases h
      | some r' =>
        rw [hr] at h
        cases h
        rcases List.mem_cons.1 hb with rfl | hb
        · exact h1
        · exact allF_inv hf h2 hr b hb
theorem stepsOf_view {l : List UInt8} : ∀ s ∈ (stepsOf l).1, 1 ≤ s.1 := by
  unfold stepsOf
  split
  · simp
  · split
    · simp
    · split
      · simp
      · split
        · simp
        · rename_i hr
          refine allF_inv (I := fun s => 0 ≤ s) (Q := fun b => 1 ≤ b.1) (fun s p s' b hs hf => ?_) (by omega) hr
          obtain ⟨h1, h2⟩ := stepF_ok hf
          unfold stepF at hf
          split at hf
          · rename_i hc
            cases hf
            exact ⟨by have := hc.2.2.2.1; show 1 ≤ _; omega, by have := hc.2.2.2.1; omega⟩
          · cases hf
theorem stepsOf_ne {l : List UInt8} (h : nameOk l = true) (h0 : l ≠ []) : (stepsOf l).1 ≠ [] := by
  unfold nameOk at h
  unfold stepsOf at h ⊢
  rw [if_neg h0] at h ⊢
  cases hp : parts 47 l with
  | nil => rw [hp] at h; cases h
  | cons p0 ps =>
    rw [hp] at h
    dsimp only at h ⊢
    split
    · rename_i h1
      rw [if_pos h1] at h
      cases h
    · rename_i h1
      rw [if_neg h1] at h
      have hp0 : p0 = [] := Classical.byContradiction fun hne => h1 (.inl hne)
      cases hr : allF stepF 0 ps with
      | none => rw [hr] at h; cases h
      | some r =>
        dsimp only
        intro hr0
        have hl := allF_len hr
        rw [hr0] at hl
        have : ps = [] := List.eq_nil_of_length_eq_zero hl.symm
        subst this hp0
        exact h0 (parts_one hp)
theorem viewOf_pos {l : List UInt8} (h : nameOk l = true) (h0 : l ≠ []) : 1 ≤ viewOf l := by
  have hne := stepsOf_ne h h0
  unfold viewOf
  cases hs : (stepsOf l).1.getLast? with
  | none => exact absurd (List.getLast?_eq_none_iff.1 hs) hne
  | some s => exact stepsOf_view s (List.mem_of_getLast? hs)
theorem viewOf_nil : viewOf [] = 0 := rfl
theorem nameOk_nil : nameOk [] = true := rfl
/-- The program's own word for a right certificate is the reference's. -/
theorem qcOk_alt (c : Int × Int) (v : Int) (l : List UInt8) (s : List Int) :
    (confOk c && (((v == 0) && (decide (l = []) && decide (s = []))) || (decide (v ≥ 1) && (nameOk l && ((v == viewOf l) && (setOk c.1 s && decide ((s.length : Int) ≥ quorum c))))))) = qcOk c (v, l, s) := by
  unfold qcOk
  dsimp only
  cases hc : confOk c with
  | false => rfl
  | true =>
    rw [Bool.true_and, Bool.true_and]
    by_cases h0 : l = []
    · subst h0
      rw [viewOf_nil, nameOk_nil, if_pos rfl, decide_eq_true rfl, Bool.true_and, Bool.true_and, Bool.true_and]
      by_cases hv : v = 0
      · subst hv
        rw [beq_self_eq_true, decide_eq_true rfl, decide_eq_false (show ¬ (0 : Int) ≥ 1 by omega), Bool.false_and, Bool.or_false]
      · rw [beq_eq_false_iff_ne.2 hv, decide_eq_false (show ¬ (0 : Int) = v from fun h => hv h.symm)]
        simp
    · rw [decide_eq_false h0, Bool.false_and, Bool.and_false, Bool.false_or, if_neg h0]
      cases hn : nameOk l with
      | false => rw [Bool.false_and, Bool.false_and, Bool.and_false]
      | true =>
        have := viewOf_pos hn h0
        by_cases hv : v = viewOf l
        · rw [decide_eq_true (show v ≥ 1 by omega), beq_iff_eq.2 hv, decide_eq_true hv.symm]
          rfl
        · rw [beq_eq_false_iff_ne.2 hv, decide_eq_false (show ¬ viewOf l = v from fun h => hv h.symm)]
          simp
theorem QcOk_law2 {v : Int} {l : List UInt8} {s : List Int} (hl : l.length ≤ 1073741824) (hs : s.length ≤ 1073741824) (c : Int × Int) : impl_QcOk F0 c (v, tx l, s) = some (qcOk c (v, l, s), ()) := by
  rw [← qcOk_alt, impl_QcOk_eq, ConfOk_law2, bnd, impl_QcFirst_eq, bnd]
  dsimp only
  rw [nil_tx, QcSame_law hs, bnd, NameOk_law2 hl, bnd, ViewOf_law2 hl, bnd, SetOk_law2 hs, bnd, Quorum_law2, bnd]
  dsimp only
  generalize nameOk l = b1
  generalize viewOf l = b2
  generalize setOk c.1 s = b3
  generalize decide ((s.length : Int) ≥ quorum c) = b4
  generalize decide (v ≥ 1) = b5
  generalize ((v == 0) && (decide (l = []) && decide (s = []))) = b6
  generalize (v == b2) = b7
  cases confOk c <;> cases b1 <;> cases b3 <;> cases b4 <;> cases b5 <;> cases b6 <;> cases b7 <;> rfl
/-! ### Parts -/
end Go.Am.Tryz
set_option linter.unusedVariables false
set_option linter.unusedSimpArgs false
namespace Go.Am.Tryz
open Go.Am
/-! ### Marks -/
end Go.Am.Tryz
set_option linter.unusedVariables false
set_option linter.unusedSimpArgs false
namespace Go.Am.Tryz
open Go.Am
abbrev SafeD := Int × Int × QcD × ByteArray
abbrev BlockD := ByteArray × QcD
abbrev MsgD := Int × Int × BlockD × QcD × QcD × Int × TxD
abbrev PostD := Int × MsgD
abbrev RepD := Int × Int × Int × SafeD × List TxD × List QcD × (List Int × Int) × List PostD
abbrev WireD := Int × List Int
abbrev SaidD := Int × ByteArray × Int
abbrev WorldD := (Int × Int) × List Int × List RepD × List WireD × List SaidD
theorem sz_le {b : ByteArray} (h : b.size ≤ 1048576) : b.data.toList.length ≤ 1073741824 := Nat.le_trans (Nat.le_of_eq (show b.data.toList.length = b.size from rfl)) (by omega)
theorem NameOk_at {b : ByteArray} (h : b.size ≤ 1048576) : spec_NameOk F0 b = some (nameOk b.data.toList, ()) := NameOk_law (sz_le h)
theorem NameOk_at2 {b : ByteArray} (h : b.size ≤ 1048576) : impl_NameOk F0 b = some (nameOk b.data.toList, ()) := NameOk_law2 (sz_le h)
theorem ViewOf_at {b : ByteArray} (h : b.size ≤ 1048576) : spec_ViewOf F0 b = some (viewOf b.data.toList, ()) := ViewOf_law (sz_le h)
theorem ViewOf_at2 {b : ByteArray} (h : b.size ≤ 1048576) : impl_ViewOf F0 b = some (viewOf b.data.toList, ()) := ViewOf_law2 (sz_le h)
/-- A certificate's, a part's bulk. -/
def QcL (q : QcD) : Prop := q.2.1.size ≤ 1048576 ∧ q.2.2.length ≤ 1048576
def qcOkD (c : Int × Int) (q : QcD) : Bool := qcOk c (q.1, q.2.1.data.toList, q.2.2)
theorem QcOk_at {q : QcD} (h : QcL q) (c : Int × Int) : spec_QcOk F0 c q = some (qcOkD c q, ()) := QcOk_law (v := q.1) (l := q.2.1.data.toList) (s := q.2.2) (sz_le h.1) (Nat.le_trans h.2 (by omega)) c
theorem QcOk_at2 {q : QcD} (h : QcL q) (c : Int × Int) : impl_QcOk F0 c q = some (qcOkD c q, ()) := QcOk_law2 (v := q.1) (l := q.2.1.data.toList) (s := q.2.2) (sz_le h.1) (Nat.le_trans h.2 (by omega)) c
/-! ### What holds -/
def safeOk (c : Int × Int) (s : SafeD) : Bool := inR 0 60 s.1 && (inR 0 60 s.2.1 && (qcOkD c s.2.2.1 && nameOk s.2.2.2.data.toList))
def SafeL (s : SafeD) : Prop := QcL s.2.2.1 ∧ s.2.2.2.size ≤ 1048576
theorem SafeOk_law {s : SafeD} (h : SafeL s) (c : Int × Int) : spec_SafeOk F0 c s = some (safeOk c s, ()) := by
  rw [spec_SafeOk_eq, l1In_lawR, bnd, l1In_lawR, bnd, QcOk_at h.1, bnd, NameOk_at h.2, bnd]
  unfold safeOk
  cases inR 0 60 s.1 <;> cases inR 0 60 s.2.1 <;> cases qcOkD c s.2.2.1 <;> rfl
theorem SafeOk_law2 {s : SafeD} (h : SafeL s) (c : Int × Int) : impl_SafeOk F0 c s = some (safeOk c s, ()) := by
  rw [impl_SafeOk_eq, within_law3, bnd, within_law3, bnd, QcOk_at2 h.1, bnd, NameOk_at2 h.2, bnd]
  unfold safeOk
  cases inR 0 60 s.1 <;> cases inR 0 60 s.2.1 <;> cases qcOkD c s.2.2.1 <;> rfl
/-! ### Pools -/
theorem getD_is {α : Type} {a : List α} {k : Nat} (h : k < a.length) (d : α) : a.getD k d = a[k] := by simp [List.getD, h]
/-- Each is right, and lies behind the one ahead of it. -/
def inRow {α : Type} (d : α) (p : α → Bool) (q : α → α → Bool) (l : List α) : Bool := (List.range l.length).all fun k => p (l.getD k d) && (decide (k = 0) || q (l.getD (k - 1) d) (l.getD k d))
theorem row_step {β : Type} {k : Nat} (a b : Bool) (x y : β) (y' : β) (hy : 0 < k → y' = br (!b) x y) :
    br (!a) x (br (decide ((k : Int) > 0)) y' y) = if (a && (decide (k = 0) || b)) = true then y else x := by
  cases a with
  | false => rfl
  | true =>
    rw [Bool.not_true, br_false, Bool.true_and]
    by_cases h : k = 0
    · subst h
      rfl
    · rw [decide_eq_true (show (k : Int) > 0 by omega), br_true, decide_eq_false h, Bool.false_or, hy (by omega)]
      cases b <;> rfl
def d0Tx : TxD := (0, 0, 0, 0)
def befTx (a b : TxD) : Bool := decide (a.1 < b.1) || ((a.1 == b.1) && decide (a.2.2.2 < b.2.2.2))
theorem l4Before_law (a b : TxD) : spec_l4Before F0 a b = some (befTx a b, ()) := by
  rw [spec_l4Before_eq]
  unfold befTx
  cases decide (a.1 < b.1) <;> cases (a.1 == b.1) <;> rfl
theorem beforeTx_law (a b : TxD) : impl_beforeTx F0 a b = some (befTx a b, ()) := by
  rw [impl_beforeTx_eq]
  unfold befTx
  cases decide (a.1 < b.1) <;> cases (a.1 == b.1) <;> rfl
def poolOk (p : List TxD) : Bool := inRow d0Tx txOk befTx p && decide ((p.length : Int) ≤ 12)
theorem PoolOk_law {p : List TxD} (h : p.length ≤ 1048576) : spec_PoolOk F0 p = some (poolOk p, ()) := by
  rw [spec_PoolOk_eq, all_to (fun m k => spec_PoolOk_1 F0 (spec_PoolOk_1_k F0) m (spec_PoolOk_1_s p k)) p.length (fun k => txOk (p.getD k d0Tx) && (decide (k = 0) || befTx (p.getD (k - 1) d0Tx) (p.getD k d0Tx))) (some (decide ((p.length : Int) ≤ 12), ())) (some (false, ())) (fun m k hk => ?_) (fun m => ?_) _ (by rw [n_eq]; omega)]
  · unfold poolOk inRow
    cases (List.range p.length).all _ <;> rfl
  · rw [spec_PoolOk_1_step, dec_lt hk, br_true, okI_nat hk, ck_true, at_isD hk, TxOk_law, bnd, getD_is hk, spec_PoolOk_1_cr, w64_succ (by omega), ck_true]
    refine row_step _ (befTx (p.getD (k - 1) d0Tx) p[k]) _ _ _ fun h0 => ?_
    rw [w64_pred h0 (by omega), okI_nat (show k - 1 < p.length by omega), ck_true, at_isD (show k - 1 < p.length by omega), l4Before_law, bnd, getD_is (show k - 1 < p.length by omega)]
  · rw [spec_PoolOk_1_step, dec_nlt, br_false, spec_PoolOk_1_ce0]
theorem PoolOk_law2 {p : List TxD} (h : p.length ≤ 1048576) : impl_PoolOk F0 p = some (poolOk p, ()) := by
  rw [impl_PoolOk_eq, all_to (fun m k => impl_PoolOk_1 F0 (impl_PoolOk_1_k F0) m (impl_PoolOk_1_s p p (p.length : Int) k)) p.length (fun k => txOk (p.getD k d0Tx) && (decide (k = 0) || befTx (p.getD (k - 1) d0Tx) (p.getD k d0Tx))) (some (decide ((p.length : Int) ≤ 12), ())) (some (false, ())) (fun m k hk => ?_) (fun m => ?_) _ (by rw [n_eq]; omega)]
  · unfold poolOk inRow
    cases (List.range p.length).all _ <;> rfl
  · rw [impl_PoolOk_1_step, dec_lt hk, br_true, okI_nat hk, ck_true, at_isD hk, TxOk_law2, bnd, getD_is hk, impl_PoolOk_1_cr, w64_succ (by omega)]
    refine row_step _ (befTx (p.getD (k - 1) d0Tx) p[k]) _ _ _ fun h0 => ?_
    rw [w64_pred h0 (by omega), okI_nat (show k - 1 < p.length by omega), ck_true, at_isD (show k - 1 < p.length by omega), beforeTx_law, bnd, getD_is (show k - 1 < p.length by omega)]
  · rw [impl_PoolOk_1_step, dec_nlt, br_false, impl_PoolOk_1_ce0]
/-! ### Parts, tables -/
def noName (b : ByteArray) : Bool := b.toList == (ByteArray.mk #[]).toList
def partOk (c : Int × Int) (p : QcD) : Bool :=
  confOk c && (inR 1 60 p.1 && (setOk c.1 p.2.2 && (!((p.2.2.length : Int) == 0) && (noName p.2.1 || (nameOk p.2.1.data.toList && (viewOf p.2.1.data.toList == p.1))))))
theorem PartOk_law {p : QcD} (h : QcL p) (c : Int × Int) : spec_PartOk F0 c p = some (partOk c p, ()) := by
  rw [spec_PartOk_eq, ConfOk_law, bnd, l1In_lawR, bnd, SetOk_law (Nat.le_trans h.2 (by omega)), bnd, NameOk_at h.1, bnd, ViewOf_at h.1, bnd]
  unfold partOk noName
  cases confOk c <;> cases inR 1 60 p.1 <;> cases setOk c.1 p.2.2 <;> cases ((p.2.2.length : Int) == 0) <;> cases (p.2.1.toList == (ByteArray.mk #[]).toList) <;> cases nameOk p.2.1.data.toList <;> rfl
theorem pos_ne (n : Nat) : decide ((n : Int) > 0) = !((n : Int) == 0) := by
  cases n with
  | zero => rfl
  | succ n =>
    rw [decide_eq_true (by omega), beq_eq_false_iff_ne.2 (by omega)]
    rfl
theorem PartOk_law2 {p : QcD} (h : QcL p) (c : Int × Int) : impl_PartOk F0 c p = some (partOk c p, ()) := by
  rw [impl_PartOk_eq, ConfOk_law2, bnd, within_law3, bnd, SetOk_law2 (Nat.le_trans h.2 (by omega)), bnd, NameOk_at2 h.1, bnd, ViewOf_at2 h.1, bnd, pos_ne]
  unfold partOk noName
  dsimp only
  generalize (viewOf p.2.1.data.toList == p.1) = b
  cases confOk c <;> cases inR 1 60 p.1 <;> cases setOk c.1 p.2.2 <;> cases ((p.2.2.length : Int) == 0) <;> cases (p.2.1.toList == (ByteArray.mk #[]).toList) <;> cases nameOk p.2.1.data.toList <;> cases b <;> rfl
def d0Qc : QcD := (0, ByteArray.mk #[], [])
def befPart (a b : QcD) : Bool := decide (a.1 < b.1) || ((a.1 == b.1) && Op.bytesLess a.2.1.toList b.2.1.toList)
theorem l10Before_law (a b : QcD) : spec_l10Before F0 a b = some (befPart a b, ()) := by
  rw [spec_l10Before_eq]
  unfold befPart
  cases decide (a.1 < b.1) <;> cases (a.1 == b.1) <;> rfl
def cmpI (x y : Int) : Int := if x < y then -1 else if x > y then 1 else 0
theorem compare_law (x y : Int) : cmp_Compare_int F0 x y = some (cmpI x y, ()) := by
  rw [cmp_Compare_int_eq, cmp_isNaN_int_eq, bnd, cmp_isNaN_int_eq, bnd, bne_self_eq_false, bne_self_eq_false, br_false, br_false]
  unfold cmpI
  by_cases h : x < y
  · rw [decide_eq_true h, br_true, if_pos h]
  · rw [decide_eq_false h, br_false, if_neg h]
    by_cases h2 : x > y
    · rw [decide_eq_true h2, br_true, if_pos h2]
    · rw [decide_eq_false h2, br_false, if_neg h2]
def cmpS (x y : ByteArray) : Int := if Op.bytesLess x.toList y.toList = true then -1 else if (x.toList == y.toList) = true then 0 else 1
theorem compareS_law (x y : ByteArray) : cmp_Compare_string F0 x y = some (cmpS x y, ()) := by
  rw [cmp_Compare_string_eq, cmp_isNaN_string_eq, bnd, cmp_isNaN_string_eq, bnd, same_text, same_text, br_false, br_false]
  unfold cmpS
  cases Op.bytesLess x.toList y.toList <;> cases (x.toList == y.toList) <;> rfl
theorem comparePlace_law (a b : QcD) : ∃ r, impl_comparePlace F0 a b = some (r, ()) ∧ decide (r ≥ 0) = !befPart a b := by
  rw [impl_comparePlace_eq, compare_law, bnd, compareS_law, bnd]
  unfold befPart cmpI cmpS
  dsimp only
  by_cases h : a.1 < b.1
  · rw [if_pos h, decide_eq_true h]
    exact ⟨-1, rfl, rfl⟩
  · rw [if_neg h, decide_eq_false h, Bool.false_or]
    by_cases h2 : a.1 > b.1
    · rw [if_pos h2, beq_eq_false_iff_ne.2 (show a.1 ≠ b.1 by omega)]
      exact ⟨1, rfl, rfl⟩
    · rw [if_neg h2, show a.1 = b.1 by omega, beq_self_eq_true]
      refine ⟨_, rfl, ?_⟩
      cases Op.bytesLess a.2.1.toList b.2.1.toList <;> cases (a.2.1.toList == b.2.1.toList) <;> rfl
def tableOk (c : Int × Int) (l : List QcD) : Bool := inRow d0Qc (partOk c) befPart l && decide ((l.length : Int) ≤ 20)
theorem TableOk_law {l : List QcD} (h : l.length ≤ 1048576) (hq : ∀ q ∈ l, QcL q) (c : Int × Int) : spec_TableOk F0 c l = some (tableOk c l, ()) := by
  rw [spec_TableOk_eq, all_to (fun m k => spec_TableOk_1 F0 (spec_TableOk_1_k F0) m (spec_TableOk_1_s l k c.1 c.2)) l.length (fun k => partOk c (l.getD k d0Qc) && (decide (k = 0) || befPart (l.getD (k - 1) d0Qc) (l.getD k d0Qc))) (some (decide ((l.length : Int) ≤ 20), ())) (some (false, ())) (fun m k hk => ?_) (fun m => ?_) _ (by rw [n_eq]; omega)]
  · unfold tableOk inRow
    cases (List.range l.length).all _ <;> rfl
  · rw [spec_TableOk_1_step, dec_lt hk, br_true, okI_nat hk, ck_true, at_isD hk, show ((c.1, c.2) : Int × Int) = c from rfl, PartOk_law (hq _ (List.getElem_mem hk)), bnd, getD_is hk, spec_TableOk_1_cr, w64_succ (by omega), ck_true]
    refine row_step _ (befPart (l.getD (k - 1) d0Qc) l[k]) _ _ _ fun h0 => ?_
    rw [w64_pred h0 (by omega), okI_nat (show k - 1 < l.length by omega), ck_true, at_isD (show k - 1 < l.length by omega), l10Before_law, bnd, getD_is (show k - 1 < l.length by omega)]
  · rw [spec_TableOk_1_step, dec_nlt, br_false, spec_TableOk_1_ce0]
theorem TableOk_law2 {l : List QcD} (h : l.length ≤ 1048576) (hq : ∀ q ∈ l, QcL q) (c : Int × Int) : impl_TableOk F0 c l = some (tableOk c l, ()) := by
  rw [impl_TableOk_eq, all_to (fun m k => impl_TableOk_1 F0 (impl_TableOk_1_k F0) m (impl_TableOk_1_s l l (l.length : Int) k c.1 c.2)) l.length (fun k => partOk c (l.getD k d0Qc) && (decide (k = 0) || befPart (l.getD (k - 1) d0Qc) (l.getD k d0Qc))) (some (decide ((l.length : Int) ≤ 20), ())) (some (false, ())) (fun m k hk => ?_) (fun m => ?_) _ (by rw [n_eq]; omega)]
  · unfold tableOk inRow
    cases (List.range l.length).all _ <;> rfl
  · rw [impl_TableOk_1_step, dec_lt hk, br_true, okI_nat hk, ck_true, at_isD hk, show ((c.1, c.2) : Int × Int) = c from rfl, PartOk_law2 (hq _ (List.getElem_mem hk)), bnd, getD_is hk, impl_TableOk_1_cr, w64_succ (by omega)]
    refine row_step _ (befPart (l.getD (k - 1) d0Qc) l[k]) _ _ _ fun h0 => ?_
    rw [w64_pred h0 (by omega), okI_nat (show k - 1 < l.length by omega), ck_true, at_isD (show k - 1 < l.length by omega)]
    obtain ⟨r, h1, h2⟩ := comparePlace_law l[k - 1] l[k]
    rw [h1, bnd, h2, getD_is (show k - 1 < l.length by omega)]
  · rw [impl_TableOk_1_step, dec_nlt, br_false, impl_TableOk_1_ce0]
/-! ### Disks -/
def diskOk (d : List Int × Int) : Bool := decide ((d.1.length : Int) ≤ 100000) && inR 0 d.1.length d.2
theorem DiskOk_law (d : List Int × Int) : spec_DiskOk F0 d = some (diskOk d, ()) := by
  rw [spec_DiskOk_eq, l1In_lawR, bnd]
  unfold diskOk
  cases decide ((d.1.length : Int) ≤ 100000) <;> rfl
theorem DiskOk_law2 (d : List Int × Int) : impl_DiskOk F0 d = some (diskOk d, ()) := by
  rw [impl_DiskOk_eq, within_law3, bnd]
  unfold diskOk
  cases decide ((d.1.length : Int) ≤ 100000) <;> rfl
end Go.Am.Tryz
set_option linter.unusedVariables false
set_option linter.unusedSimpArgs false
namespace Go.Am.Tryz
open Go.Am
/-! ### The same -/
theorem l7Ints_law {a b : List Int} (ha : a.length ≤ 1048576) (hb : b.length ≤ 1048576) : spec_l7Ints F0 a b = some (decide (a = b), ()) := by
  rw [spec_l7Ints_eq, all_to (fun m k => spec_l7Ints_1 F0 (spec_l7Ints_1_k F0) m (spec_l7Ints_1_s a b k)) (min a.length b.length) (fun k => a.getD k 0 == b.getD k 0) (some (((a.length : Int) == (b.length : Int)), ())) (some (false, ())) (fun m k hk => ?_) (fun m => ?_) _ (by rw [n_eq]; omega)]
  · by_cases hab : a = b
    · rw [decide_eq_true hab, if_pos (List.all_eq_true.2 fun k _ => by rw [hab]; exact beq_self_eq_true (b.getD k 0)), hab, beq_self_eq_true]
    · rw [decide_eq_false hab]
      by_cases hl : a.length = b.length
      · rw [if_neg]
        intro hall
        refine hab (List.ext_getElem hl fun k h1 h2 => ?_)
        have := List.all_eq_true.1 hall k (List.mem_range.2 (by omega))
        simpa [List.getD, h1, h2] using this
      · rw [beq_eq_false_iff_ne.2 (show (a.length : Int) ≠ (b.length : Int) by omega)]
        cases (List.range (min a.length b.length)).all _ <;> rfl
  · rw [spec_l7Ints_1_step, dec_lt (show k < a.length by omega), br_true, dec_lt (show k < b.length by omega), br_true, okI_nat (show k < a.length by omega), ck_true, okI_nat (show k < b.length by omega), ck_true, at_nat, at_nat, spec_l7Ints_1_cr, w64_succ (by omega), br_ite]
    by_cases h3 : a.getD k 0 = b.getD k 0
    · simp [h3]
    · simp [h3]
  · rw [spec_l7Ints_1_step, spec_l7Ints_1_ce0]
    rcases Nat.lt_or_ge a.length b.length with h | h
    · rw [Nat.min_eq_left (by omega), dec_nlt, br_false]
    · rw [Nat.min_eq_right h, dec_nlt, br_false]
      cases decide ((b.length : Int) < (a.length : Int)) <;> rfl
def qcSame (a b : QcD) : Bool := (a.1 == b.1) && ((a.2.1.toList == b.2.1.toList) && decide (a.2.2 = b.2.2))
theorem QcSame_at {a b : QcD} (ha : QcL a) (hb : QcL b) : spec_QcSame F0 a b = some (qcSame a b, ()) := by
  rw [spec_QcSame_eq, l7Ints_law ha.2 hb.2, bnd]
  unfold qcSame
  cases (a.1 == b.1) <;> cases (a.2.1.toList == b.2.1.toList) <;> rfl
theorem QcSame_at2 {a b : QcD} (ha : QcL a) : impl_QcSame F0 a b = some (qcSame a b, ()) := by
  rw [impl_QcSame_eq, Equal_law (Nat.le_trans ha.2 (by omega)), bnd]
  unfold qcSame
  cases (a.1 == b.1) <;> cases (a.2.1.toList == b.2.1.toList) <;> rfl
theorem l14Part_law {a b : QcD} (ha : QcL a) (hb : QcL b) : spec_l14Part F0 a b = some (qcSame a b, ()) := by
  rw [spec_l14Part_eq, l7Ints_law ha.2 hb.2, bnd]
  unfold qcSame
  cases (a.1 == b.1) <;> cases (a.2.1.toList == b.2.1.toList) <;> rfl
theorem partSame_law {a b : QcD} (ha : QcL a) : impl_partSame F0 a b = some (qcSame a b, ()) := by
  rw [impl_partSame_eq, Equal_law (Nat.le_trans ha.2 (by omega)), bnd]
  unfold qcSame
  cases (a.1 == b.1) <;> cases (a.2.1.toList == b.2.1.toList) <;> rfl
def blockSame (a b : BlockD) : Bool := (a.1.toList == b.1.toList) && qcSame a.2 b.2
theorem BlockSame_law {a b : BlockD} (ha : QcL a.2) (hb : QcL b.2) : spec_BlockSame F0 a b = some (blockSame a b, ()) := by
  rw [spec_BlockSame_eq, QcSame_at ha hb, bnd]
  unfold blockSame
  cases (a.1.toList == b.1.toList) <;> rfl
theorem BlockSame_law2 {a b : BlockD} (ha : QcL a.2) : impl_BlockSame F0 a b = some (blockSame a b, ()) := by
  rw [impl_BlockSame_eq, QcSame_at2 ha, bnd]
  unfold blockSame
  cases (a.1.toList == b.1.toList) <;> rfl
def txSame (a b : TxD) : Bool := (a.1 == b.1) && ((a.2.1 == b.2.1) && ((a.2.2.1 == b.2.2.1) && ((a.2.2.2 == b.2.2.2) && true)))
def msgSame (a b : MsgD) : Bool := (a.1 == b.1) && ((a.2.1 == b.2.1) && (blockSame a.2.2.1 b.2.2.1 && (qcSame a.2.2.2.1 b.2.2.2.1 && (qcSame a.2.2.2.2.1 b.2.2.2.2.1 && ((a.2.2.2.2.2.1 == b.2.2.2.2.2.1) && txSame a.2.2.2.2.2.2 b.2.2.2.2.2.2)))))
/-- A message's bulk. -/
def MsgL (m : MsgD) : Prop := m.2.2.1.1.size ≤ 1048576 ∧ QcL m.2.2.1.2 ∧ QcL m.2.2.2.1 ∧ QcL m.2.2.2.2.1
theorem MsgSame_law {a b : MsgD} (ha : MsgL a) (hb : MsgL b) : spec_MsgSame F0 a b = some (msgSame a b, ()) := by
  rw [spec_MsgSame_eq, BlockSame_law ha.2.1 hb.2.1, bnd, l14Part_law ha.2.2.1 hb.2.2.1, bnd, QcSame_at ha.2.2.2 hb.2.2.2, bnd]
  unfold msgSame txSame
  dsimp only
  generalize ((a.2.2.2.2.2.2.1 == b.2.2.2.2.2.2.1) && ((a.2.2.2.2.2.2.2.1 == b.2.2.2.2.2.2.2.1) && ((a.2.2.2.2.2.2.2.2.1 == b.2.2.2.2.2.2.2.2.1) && ((a.2.2.2.2.2.2.2.2.2 == b.2.2.2.2.2.2.2.2.2) && true)))) = t
  cases (a.1 == b.1) <;> cases (a.2.1 == b.2.1) <;> cases blockSame a.2.2.1 b.2.2.1 <;> cases qcSame a.2.2.2.1 b.2.2.2.1 <;> cases qcSame a.2.2.2.2.1 b.2.2.2.2.1 <;> cases (a.2.2.2.2.2.1 == b.2.2.2.2.2.1) <;> rfl
theorem MsgSame_law2 {a b : MsgD} (ha : MsgL a) : impl_MsgSame F0 a b = some (msgSame a b, ()) := by
  rw [impl_MsgSame_eq, BlockSame_law2 ha.2.1, bnd, partSame_law ha.2.2.1, bnd, QcSame_at2 ha.2.2.2, bnd]
  unfold msgSame txSame
  dsimp only
  generalize ((a.2.2.2.2.2.2.1 == b.2.2.2.2.2.2.1) && ((a.2.2.2.2.2.2.2.1 == b.2.2.2.2.2.2.2.1) && ((a.2.2.2.2.2.2.2.2.1 == b.2.2.2.2.2.2.2.2.1) && ((a.2.2.2.2.2.2.2.2.2 == b.2.2.2.2.2.2.2.2.2) && true)))) = t
  cases (a.1 == b.1) <;> cases (a.2.1 == b.2.1) <;> cases blockSame a.2.2.1 b.2.2.1 <;> cases qcSame a.2.2.2.1 b.2.2.2.1 <;> cases qcSame a.2.2.2.2.1 b.2.2.2.2.1 <;> cases (a.2.2.2.2.2.1 == b.2.2.2.2.2.1) <;> rfl
theorem qcSame_comm (a b : QcD) : qcSame a b = qcSame b a := by
  unfold qcSame
  rw [BEq.comm (a := a.1), BEq.comm (a := a.2.1.toList)]
  congr 2
  by_cases h : a.2.2 = b.2.2
  · rw [decide_eq_true h, decide_eq_true h.symm]
  · rw [decide_eq_false h, decide_eq_false fun h' => h h'.symm]
theorem msgSame_comm (a b : MsgD) : msgSame a b = msgSame b a := by
  unfold msgSame blockSame txSame
  rw [BEq.comm (a := a.1), BEq.comm (a := a.2.1), BEq.comm (a := a.2.2.1.1.toList), qcSame_comm a.2.2.1.2, qcSame_comm a.2.2.2.1, qcSame_comm a.2.2.2.2.1, BEq.comm (a := a.2.2.2.2.2.1), BEq.comm (a := a.2.2.2.2.2.2.1), BEq.comm (a := a.2.2.2.2.2.2.2.1), BEq.comm (a := a.2.2.2.2.2.2.2.2.1), BEq.comm (a := a.2.2.2.2.2.2.2.2.2)]
def named (m : MsgD) : MsgD :=
  if (m.1 == 1) = true then (m.1, 0, m.2.2.1, d0Qc, d0Qc, 0, d0Tx)
  else if (m.1 == 2) = true then (m.1, 0, (ByteArray.mk #[], d0Qc), m.2.2.2.1, d0Qc, 0, d0Tx)
  else if (m.1 == 3) = true then (m.1, m.2.1, (ByteArray.mk #[], d0Qc), d0Qc, m.2.2.2.2.1, m.2.2.2.2.2.1, d0Tx)
  else if (m.1 == 4) = true then (m.1, 0, (ByteArray.mk #[], d0Qc), d0Qc, d0Qc, 0, m.2.2.2.2.2.2)
  else (m.1, 0, (ByteArray.mk #[], d0Qc), d0Qc, d0Qc, 0, d0Tx)
theorem named_law (m : MsgD) : impl_named F0 m = some (named m, ()) := by
  rw [impl_named_eq]
  unfold named
  cases (m.1 == 1) <;> cases (m.1 == 2) <;> cases (m.1 == 3) <;> cases (m.1 == 4) <;> rfl
theorem d0Qc_l : QcL d0Qc := ⟨Nat.zero_le _, Nat.zero_le _⟩
theorem named_l {m : MsgD} (h : MsgL m) : MsgL (named m) := by
  unfold named
  split
  · exact ⟨h.1, h.2.1, d0Qc_l, d0Qc_l⟩
  · split
    · exact ⟨Nat.zero_le _, d0Qc_l, h.2.2.1, d0Qc_l⟩
    · split
      · exact ⟨Nat.zero_le _, d0Qc_l, d0Qc_l, h.2.2.2⟩
      · split
        · exact ⟨Nat.zero_le _, d0Qc_l, d0Qc_l, d0Qc_l⟩
        · exact ⟨Nat.zero_le _, d0Qc_l, d0Qc_l, d0Qc_l⟩
theorem l14Zero_law {m : MsgD} (h : MsgL m) : spec_l14Zero F0 m = some (msgSame (named m) m, ()) := by
  have hn := MsgSame_law (named_l h) h
  rw [spec_l14Zero_eq]
  unfold named d0Qc d0Tx at hn
  unfold named d0Qc d0Tx
  by_cases h1 : (m.1 == 1) = true
  · rw [if_pos h1] at hn ⊢
    rw [h1, br_true, hn, bnd]
  · rw [if_neg h1] at hn ⊢
    rw [Bool.eq_false_iff.2 h1, br_false]
    by_cases h2 : (m.1 == 2) = true
    · rw [if_pos h2] at hn ⊢
      rw [h2, br_true, hn, bnd]
    · rw [if_neg h2] at hn ⊢
      rw [Bool.eq_false_iff.2 h2, br_false]
      by_cases h3 : (m.1 == 3) = true
      · rw [if_pos h3] at hn ⊢
        rw [h3, br_true, hn, bnd]
      · rw [if_neg h3] at hn ⊢
        rw [Bool.eq_false_iff.2 h3, br_false]
        by_cases h4 : (m.1 == 4) = true
        · rw [if_pos h4] at hn ⊢
          rw [h4, br_true, hn, bnd]
        · rw [if_neg h4] at hn ⊢
          rw [Bool.eq_false_iff.2 h4, br_false, hn, bnd]
/-! ### Names without their last step -/
def lastK (l : List UInt8) : Nat → Nat
  | 0 => 0
  | k + 1 => if (((l.getD k 0).toNat : Int) != 47) = true then lastK l k else k + 1
theorem lastK_le (l : List UInt8) : ∀ k, lastK l k ≤ k
  | 0 => Nat.le_refl _
  | k + 1 => by
    unfold lastK
    split
    · exact Nat.le_succ_of_le (lastK_le l k)
    · exact Nat.le_refl _
theorem okS0 {h n : Nat} (hn : h ≤ n) : okS 0 (h : Int) (n : Int) = true := okS_nat (l := 0) (Nat.zero_le _) hn
def upL (l : List UInt8) : List UInt8 := if nameOk l = true then l.take (lastK l l.length - 1) else []
theorem up_spec (l : List UInt8) {γ : Type} (κ : Ex → St → Option γ) : ∀ (k n : Nat), k ≤ l.length → k ≤ 1073741824 → k < n → spec_UpOf_1 F0 κ n (spec_UpOf_1_s (tx l) (k : Int)) = κ (.exit 0) (spec_UpOf_1_e0 (tx l) (lastK l k : Int))
  | 0, n, hk, hm, hn => by
    obtain ⟨n, rfl⟩ : ∃ m, n = m + 1 := ⟨n - 1, by omega⟩
    rw [spec_UpOf_1_step]
    rfl
  | k + 1, n, hk, hm, hn => by
    obtain ⟨n, rfl⟩ : ∃ m, n = m + 1 := ⟨n - 1, by omega⟩
    rw [spec_UpOf_1_step, decide_eq_true (show ((k + 1 : Nat) : Int) > 0 by omega), br_true, w64_pred (by omega) (by omega), show k + 1 - 1 = k from rfl, tx_size, okI_nat (by omega), ck_true, byte_tx]
    unfold lastK
    by_cases h : (((l.getD k 0).toNat : Int) != 47) = true
    · rw [h, br_true, if_pos rfl, up_spec l κ k n (by omega) (by omega) (by omega)]
    · rw [Bool.eq_false_iff.2 h, br_false, if_neg (by decide)]
theorem UpOf_law {l : List UInt8} (h : l.length ≤ 1048576) : spec_UpOf F0 (tx l) = some (tx (upL l), ()) := by
  rw [spec_UpOf_eq, NameOk_law (by omega), bnd]
  unfold upL
  dsimp only
  cases nameOk l with
  | false => rfl
  | true =>
    have hk := lastK_le l l.length
    rw [Bool.not_true, br_false, tx_size, up_spec l _ l.length _ (Nat.le_refl _) (by omega) (by rw [n_eq]; omega), spec_UpOf_1_ce0, if_pos rfl, spec_l1Max_eq]
    have hmax : br (decide (w64 ((lastK l l.length : Int) - 1) > 0)) (some (w64 ((lastK l l.length : Int) - 1), ())) (some ((0 : Int), ())) = some (((lastK l l.length - 1 : Nat) : Int), ()) := by
      rw [w64_in (by omega) (by omega)]
      by_cases h0 : (lastK l l.length : Int) - 1 > 0
      · rw [decide_eq_true h0, br_true, show (lastK l l.length : Int) - 1 = ((lastK l l.length - 1 : Nat) : Int) by omega]
      · rw [decide_eq_false h0, br_false, show lastK l l.length - 1 = 0 by omega]
        rfl
    rw [hmax, bnd]
    dsimp only
    rw [tx_size, okS0 (by omega), ck_true, Int.toNat_natCast, show (0 : Int).toNat = 0 from rfl, extract_mid, List.drop_zero, Nat.sub_zero]
theorem last_impl (l : List UInt8) : ∀ (k n : Nat), k ≤ l.length → k ≤ 1073741824 → k < n → bytealg_LastIndexByteString_1 F0 (bytealg_LastIndexByteString_1_k F0) n (bytealg_LastIndexByteString_1_s (tx l) 47 ((k : Int) - 1)) = some ((lastK l k : Int) - 1, ())
  | 0, n, hk, hm, hn => by
    obtain ⟨n, rfl⟩ : ∃ m, n = m + 1 := ⟨n - 1, by omega⟩
    rw [bytealg_LastIndexByteString_1_step]
    rfl
  | k + 1, n, hk, hm, hn => by
    obtain ⟨n, rfl⟩ : ∃ m, n = m + 1 := ⟨n - 1, by omega⟩
    rw [show ((k + 1 : Nat) : Int) - 1 = (k : Int) by omega, bytealg_LastIndexByteString_1_step, decide_eq_true (show (k : Int) ≥ 0 by omega), br_true, tx_size, okI_nat (by omega), ck_true, byte_tx, w64_in (by omega) (by omega), bytealg_LastIndexByteString_1_cr]
    unfold lastK
    by_cases h : ((l.getD k 0).toNat : Int) = 47
    · rw [h, show ((47 : Int) == 47) = true from rfl, br_true, show ((47 : Int) != 47) = false from rfl, if_neg (by decide), show ((k + 1 : Nat) : Int) - 1 = (k : Int) by omega]
    · rw [beq_eq_false_iff_ne.2 h, br_false, bne_iff_ne.2 h, if_pos rfl, last_impl l k n (by omega) (by omega) (by omega)]
theorem parts_head {c x : UInt8} {l : List UInt8} {ps : List (List UInt8)} (h : parts c (x :: l) = [] :: ps) : x = c := by
  unfold parts at h
  split at h
  · assumption
  · split at h
    · cases (List.cons.inj h).1
    · cases (List.cons.inj h).1
theorem name_slash {l : List UInt8} (h : nameOk l = true) (h0 : l ≠ []) : ∃ t, l = 47 :: t := by
  cases l with
  | nil => exact absurd rfl h0
  | cons x t =>
    refine ⟨t, ?_⟩
    unfold nameOk stepsOf at h
    rw [if_neg h0] at h
    cases hp : parts 47 (x :: t) with
    | nil => exact absurd hp (parts_ne _ _)
    | cons p0 ps =>
      rw [hp] at h
      dsimp only at h
      split at h
      · cases h
      · rename_i h1
        have hp0 : p0 = [] := Classical.byContradiction fun hne => h1 (.inl hne)
        subst hp0
        rw [parts_head hp]
theorem lastK_pos {t : List UInt8} : ∀ k, 0 < k → 0 < lastK (47 :: t) k
  | 0, h => absurd h (Nat.lt_irrefl _)
  | 1, _ => by
    unfold lastK
    rw [show ((((47 :: t).getD 0 0 : UInt8).toNat : Int) != 47) = false from rfl, if_neg (by decide)]
    exact Nat.succ_pos _
  | k + 2, _ => by
    unfold lastK
    split
    · exact lastK_pos (k + 1) (Nat.succ_pos _)
    · exact Nat.succ_pos _
theorem UpOf_law2 {l : List UInt8} (h : l.length ≤ 1048576) : impl_UpOf F0 (tx l) = some (tx (upL l), ()) := by
  rw [impl_UpOf_eq, NameOk_law2 (by omega), bnd, nil_tx, tl_eq]
  unfold upL
  dsimp only
  cases hn : nameOk l with
  | false => rfl
  | true =>
    rw [Bool.not_true, br_false, if_pos rfl]
    by_cases h0 : l = []
    · subst h0
      rfl
    · have hk := lastK_le l l.length
      have hp : 0 < lastK l l.length := by
        obtain ⟨t, rfl⟩ := name_slash hn h0
        exact lastK_pos _ (Nat.succ_pos _)
      rw [decide_eq_false h0, br_false, strings_LastIndexByte_eq, bytealg_LastIndexByteString_eq, tx_size, w64_in (by omega) (by omega), last_impl l l.length _ (Nat.le_refl _) (by omega) (by rw [n_eq]; omega), bnd, bnd]
      dsimp only
      rw [show (lastK l l.length : Int) - 1 = ((lastK l l.length - 1 : Nat) : Int) by omega, okS0 (by omega), ck_true, Int.toNat_natCast, show (0 : Int).toNat = 0 from rfl, extract_mid, List.drop_zero, Nat.sub_zero]
theorem UpOf_at {b : ByteArray} (h : b.size ≤ 1048576) : spec_UpOf F0 b = some (tx (upL b.data.toList), ()) := UpOf_law (l := b.data.toList) h
theorem UpOf_at2 {b : ByteArray} (h : b.size ≤ 1048576) : impl_UpOf F0 b = some (tx (upL b.data.toList), ()) := UpOf_law2 (l := b.data.toList) h
/-! ### Blocks, messages -/
def blockOk (c : Int × Int) (b : BlockD) : Bool := qcOkD c b.2 && (nameOk b.1.data.toList && (!noName b.1 && ((tx (upL b.1.data.toList)).toList == b.2.2.1.toList)))
theorem BlockOk_law {b : BlockD} (h1 : b.1.size ≤ 1048576) (h2 : QcL b.2) (c : Int × Int) : spec_BlockOk F0 c b = some (blockOk c b, ()) := by
  rw [spec_BlockOk_eq, QcOk_at h2, bnd, NameOk_at h1, bnd, UpOf_at h1, bnd]
  unfold blockOk noName
  cases qcOkD c b.2 <;> cases nameOk b.1.data.toList <;> cases (b.1.toList == (ByteArray.mk #[]).toList) <;> rfl
theorem BlockOk_law2 {b : BlockD} (h1 : b.1.size ≤ 1048576) (h2 : QcL b.2) (c : Int × Int) : impl_BlockOk F0 c b = some (blockOk c b, ()) := by
  rw [impl_BlockOk_eq, QcOk_at2 h2, bnd, NameOk_at2 h1, bnd, UpOf_at2 h1, bnd]
  unfold blockOk noName
  cases qcOkD c b.2 <;> cases nameOk b.1.data.toList <;> cases (b.1.toList == (ByteArray.mk #[]).toList) <;> rfl
def msgOk (c : Int × Int) (m : MsgD) : Bool := confOk c && (msgSame (named m) m && (if (m.1 == 1) = true then blockOk c m.2.2.1 else if (m.1 == 2) = true then partOk c m.2.2.2.1 && !noName m.2.2.2.1.2.1
  else if (m.1 == 3) = true then inR 1 60 m.2.1 && (qcOkD c m.2.2.2.2.1 && inR 0 (w64 (c.1 - 1)) m.2.2.2.2.2.1) else (m.1 == 4) && txOk m.2.2.2.2.2.2))
theorem MsgOk_law {m : MsgD} (h : MsgL m) (c : Int × Int) : spec_MsgOk F0 c m = some (msgOk c m, ()) := by
  rw [spec_MsgOk_eq, ConfOk_law, bnd, l14Zero_law h, bnd, BlockOk_law h.1 h.2.1, bnd, PartOk_law h.2.2.1, bnd, l1In_lawR, bnd, QcOk_at h.2.2.2, bnd, l1In_lawR, bnd, TxOk_law, bnd]
  unfold msgOk noName
  dsimp only
  cases confOk c <;> cases msgSame (named m) m <;> cases (m.1 == 1) <;> cases (m.1 == 2) <;> cases (m.1 == 3) <;> cases (m.1 == 4) <;> cases partOk c m.2.2.2.1 <;> cases inR 1 60 m.2.1 <;> cases qcOkD c m.2.2.2.2.1 <;> rfl
theorem MsgOk_law2 {m : MsgD} (h : MsgL m) (c : Int × Int) : impl_MsgOk F0 c m = some (msgOk c m, ()) := by
  rw [impl_MsgOk_eq, ConfOk_law2, bnd, named_law, bnd, MsgSame_law2 h, bnd, BlockOk_law2 h.1 h.2.1, bnd, PartOk_law2 h.2.2.1, bnd, within_law3, bnd, QcOk_at2 h.2.2.2, bnd, within_law3, bnd, TxOk_law2, bnd, msgSame_comm]
  unfold msgOk noName
  dsimp only
  cases confOk c <;> cases msgSame (named m) m <;> cases (m.1 == 1) <;> cases (m.1 == 2) <;> cases (m.1 == 3) <;> cases (m.1 == 4) <;> cases partOk c m.2.2.2.1 <;> cases inR 1 60 m.2.1 <;> cases qcOkD c m.2.2.2.2.1 <;> rfl
/-! ### Replicas -/
def postOk (c : Int × Int) (r : Int) (p : PostD) : Bool := msgOk c p.2 && (inR 0 (w64 (c.1 - 1)) p.1 && !(p.1 == r))
def repOk (c : Int × Int) (r : RepD) : Bool :=
  confOk c && (inR 0 (w64 (c.1 - 1)) r.1 && (inR 1 60 r.2.1 && (inR 0 60 r.2.2.1 && (safeOk c r.2.2.2.1 && (poolOk r.2.2.2.2.1 && (tableOk c r.2.2.2.2.2.1 && (diskOk r.2.2.2.2.2.2.1 && (!decide ((r.2.2.2.2.2.2.2.length : Int) > 30) && r.2.2.2.2.2.2.2.all (postOk c r.1)))))))))
/-- A replica's bulk. -/
structure RepL (r : RepD) : Prop where
  s : SafeL r.2.2.2.1
  p : r.2.2.2.2.1.length ≤ 1048576
  t : r.2.2.2.2.2.1.length ≤ 1048576
  tq : ∀ q ∈ r.2.2.2.2.2.1, QcL q
  h : r.2.2.2.2.2.2.2.length ≤ 1048576
  hm : ∀ q ∈ r.2.2.2.2.2.2.2, MsgL q.2
def d0Post : PostD := (0, 0, 0, (ByteArray.mk #[], d0Qc), d0Qc, d0Qc, 0, d0Tx)
theorem ite_some (b : Bool) : (if b = true then some (true, ()) else some (false, ())) = some (b, ()) := by cases b <;> rfl
theorem RepOk_law {r : RepD} (h : RepL r) (c : Int × Int) : spec_RepOk F0 c r = some (repOk c r, ()) := by
  have hh := h.h
  rw [spec_RepOk_eq, ConfOk_law, bnd, l1In_lawR, bnd, l1In_lawR, bnd, l1In_lawR, bnd, SafeOk_law h.s, bnd, PoolOk_law h.p, bnd, TableOk_law h.t h.tq, bnd, DiskOk_law, bnd,
    all_to (fun m k => spec_RepOk_1 F0 (spec_RepOk_1_k F0) m (spec_RepOk_1_s k c.1 c.2 r.1 r.2.1 r.2.2.1 r.2.2.2.1.1 r.2.2.2.1.2.1 r.2.2.2.1.2.2.1.1 r.2.2.2.1.2.2.1.2.1 r.2.2.2.1.2.2.1.2.2 r.2.2.2.1.2.2.2 r.2.2.2.2.1 r.2.2.2.2.2.1 r.2.2.2.2.2.2.1.1 r.2.2.2.2.2.2.1.2 r.2.2.2.2.2.2.2)) r.2.2.2.2.2.2.2.length
      (fun k => postOk c r.1 (r.2.2.2.2.2.2.2.getD k d0Post)) (some (true, ())) (some (false, ())) (fun m k hk => ?_) (fun m => ?_) _ (by rw [n_eq]; omega), all_getD, ite_some]
  · unfold repOk
    cases confOk c <;> cases inR 0 (w64 (c.1 - 1)) r.1 <;> cases inR 1 60 r.2.1 <;> cases inR 0 60 r.2.2.1 <;> cases safeOk c r.2.2.2.1 <;> cases poolOk r.2.2.2.2.1 <;> cases tableOk c r.2.2.2.2.2.1 <;> cases diskOk r.2.2.2.2.2.2.1 <;> cases decide ((r.2.2.2.2.2.2.2.length : Int) > 30) <;> rfl
  · rw [spec_RepOk_1_step, dec_lt hk, br_true, okI_nat hk, ck_true, at_isD hk, show ((c.1, c.2) : Int × Int) = c from rfl, MsgOk_law (h.hm _ (List.getElem_mem hk)), bnd, ck_true, l1In_lawR, bnd, ck_true, getD_is hk, spec_RepOk_1_cr, w64_succ (by omega)]
    unfold postOk
    cases msgOk c (r.2.2.2.2.2.2.2[k]).2 <;> cases inR 0 (w64 (c.1 - 1)) (r.2.2.2.2.2.2.2[k]).1 <;> cases ((r.2.2.2.2.2.2.2[k]).1 == r.1) <;> rfl
  · rw [spec_RepOk_1_step, dec_nlt, br_false, spec_RepOk_1_ce0]
theorem RepOk_law2 {r : RepD} (h : RepL r) (c : Int × Int) : impl_RepOk F0 c r = some (repOk c r, ()) := by
  have hh := h.h
  rw [impl_RepOk_eq, ConfOk_law2, bnd, within_law3, bnd, within_law3, bnd, within_law3, bnd, SafeOk_law2 h.s, bnd, PoolOk_law2 h.p, bnd, TableOk_law2 h.t h.tq, bnd, DiskOk_law2, bnd,
    all_to (fun m k => impl_RepOk_1 F0 (impl_RepOk_1_k F0) m (impl_RepOk_1_s r.2.2.2.2.2.2.2 (r.2.2.2.2.2.2.2.length : Int) k c.1 c.2 r.1 r.2.1 r.2.2.1 r.2.2.2.1.1 r.2.2.2.1.2.1 r.2.2.2.1.2.2.1.1 r.2.2.2.1.2.2.1.2.1 r.2.2.2.1.2.2.1.2.2 r.2.2.2.1.2.2.2 r.2.2.2.2.1 r.2.2.2.2.2.1 r.2.2.2.2.2.2.1.1 r.2.2.2.2.2.2.1.2 r.2.2.2.2.2.2.2)) r.2.2.2.2.2.2.2.length
      (fun k => postOk c r.1 (r.2.2.2.2.2.2.2.getD k d0Post)) (some (true, ())) (some (false, ())) (fun m k hk => ?_) (fun m => ?_) _ (by rw [n_eq]; omega), all_getD, ite_some]
  · unfold repOk
    cases confOk c <;> cases inR 0 (w64 (c.1 - 1)) r.1 <;> cases inR 1 60 r.2.1 <;> cases inR 0 60 r.2.2.1 <;> cases safeOk c r.2.2.2.1 <;> cases poolOk r.2.2.2.2.1 <;> cases tableOk c r.2.2.2.2.2.1 <;> cases diskOk r.2.2.2.2.2.2.1 <;> cases decide ((r.2.2.2.2.2.2.2.length : Int) > 30) <;> rfl
  · rw [impl_RepOk_1_step, dec_lt hk, br_true, okI_nat hk, ck_true, at_isD hk, show ((c.1, c.2) : Int × Int) = c from rfl, MsgOk_law2 (h.hm _ (List.getElem_mem hk)), bnd, within_law3, bnd, getD_is hk, impl_RepOk_1_cr, w64_succ (by omega)]
    unfold postOk
    cases msgOk c (r.2.2.2.2.2.2.2[k]).2 <;> cases inR 0 (w64 (c.1 - 1)) (r.2.2.2.2.2.2.2[k]).1 <;> cases ((r.2.2.2.2.2.2.2[k]).1 == r.1) <;> rfl
  · rw [impl_RepOk_1_step, dec_nlt, br_false, impl_RepOk_1_ce0]
end Go.Am.Tryz
