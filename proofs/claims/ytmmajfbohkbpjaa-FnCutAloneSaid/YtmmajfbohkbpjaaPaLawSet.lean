/- Plain laws: sets. No condition. -/
import Derived.Test.YtmmajfbohkbpjaaPaLawLed
set_option linter.unusedVariables false
set_option linter.unusedSimpArgs false
namespace Go.Am.Try
open Go.Am
/-! ### Searches -/
theorem all_to {β : Type} (X : Nat → Int → Option β) (L : Nat) (p : Nat → Bool) (Rt Rf : Option β) (hs : ∀ n k, k < L → X (n + 1) (k : Int) = if p k = true then X n ((k + 1 : Nat) : Int) else Rf) (he : ∀ n, X (n + 1) (L : Int) = Rt) (n : Nat) (hn : L < n) :
    X n 0 = if (List.range L).all p = true then Rt else Rf := by
  refine loop_to (fun n i (_ : Unit) => X n i) L (fun k _ => ∀ j, j < k → p j = true) _ (fun n k _ hk h => ?_) (fun n _ h => ?_) n 0 () (Nat.zero_le _) (fun j hj => absurd hj (Nat.not_lt_zero _)) (by omega)
  · try dsimp only
    rw [hs n k hk]
    by_cases hp : p k = true
    · rw [if_pos hp]
      refine .inr ⟨(), rfl, fun j hj => ?_⟩
      by_cases hjk : j = k
      · exact hjk ▸ hp
      · exact h j (by omega)
    · rw [if_neg hp, if_neg]
      · exact .inl rfl
      · intro ha
        exact hp (List.all_eq_true.1 ha k (List.mem_range.2 hk))
  · try dsimp only
    rw [he, if_pos]
    exact List.all_eq_true.2 fun j hj => h j (List.mem_range.1 hj)
theorem all_getD {α : Type} (s : List α) (q : α → Bool) (d : α) : (List.range s.length).all (fun k => q (s.getD k d)) = s.all q := by
  rw [Bool.eq_iff_iff, List.all_eq_true, List.all_eq_true]
  constructor
  · intro h x hx
    obtain ⟨i, hi, rfl⟩ := List.mem_iff_getElem.1 hx
    have := h i (List.mem_range.2 hi)
    simpa [List.getD, hi] using this
  · intro h k hk
    exact h _ (getD_mem (List.mem_range.1 hk) d)
theorem all_ne (s : List Int) (i : Int) : (s.all fun x => !(x == i)) = !decide (i ∈ s) := by
  rw [Bool.eq_iff_iff, List.all_eq_true]
  simp only [Bool.not_eq_true', beq_eq_false_iff_ne, decide_eq_false_iff_not]
  exact ⟨fun h hi => h i hi rfl, fun h x hx e => h (e ▸ hx)⟩
theorem ite_not (b : Bool) {α : Type} (x y : α) : (if (!b) = true then x else y) = if b = true then y else x := by cases b <;> rfl
theorem br_ite {α : Type} (b : Bool) (x y : α) : br b x y = if b = true then x else y := by cases b <;> rfl
theorem SetHas_law {s : List Int} (h : s.length ≤ 1073741824) (i : Int) : spec_SetHas F0 s i = some (decide (i ∈ s), ()) := by
  rw [spec_SetHas_eq, all_to (fun n k => spec_SetHas_1 F0 (spec_SetHas_1_k F0) n (spec_SetHas_1_s s i k)) s.length (fun k => !(s.getD k 0 == i)) (some (false, ())) (some (true, ())) (fun n k hk => ?_) (fun n => ?_) _ (by rw [n_eq]; omega),
    all_getD s (fun x => !(x == i)), all_ne, ite_not]
  · by_cases hm : i ∈ s <;> simp [hm]
  · rw [spec_SetHas_1_step, dec_lt hk, br_true, okI_nat hk, ck_true, at_nat, w64_succ (by omega), ite_not, br_ite, spec_SetHas_1_cr]
  · rw [spec_SetHas_1_step, dec_nlt, br_false, spec_SetHas_1_ce0]
theorem Contains_law {s : List Int} (h : s.length ≤ 1073741824) (i : Int) : slices_Contains_int_int F0 s i = some (decide (i ∈ s), ()) := by
  have key : ∃ j, slices_Index_int_int F0 s i = some (j, ()) ∧ decide (j ≥ 0) = decide (i ∈ s) := by
    rw [slices_Index_int_int_eq]
    have := loop_to (fun n k (_ : Unit) => slices_Index_int_int_1 F0 (slices_Index_int_int_1_k F0) n (slices_Index_int_int_1_s s i (s.length : Int) k)) s.length (fun k _ => ∀ j, j < k → s.getD j 0 ≠ i)
      (some ((if i ∈ s then ((s.idxOf i : Nat) : Int) else -1), ())) (fun n k _ hk hI => ?_) (fun n _ hI => ?_) F0.n 0 () (Nat.zero_le _) (fun j hj => absurd hj (Nat.not_lt_zero _)) (by rw [n_eq]; omega)
    · refine ⟨_, this, ?_⟩
      by_cases hm : i ∈ s
      · rw [if_pos hm, decide_eq_true hm]
        exact decide_eq_true (Int.natCast_nonneg _)
      · rw [if_neg hm, decide_eq_false hm]
        rfl
    · try dsimp only
      rw [slices_Index_int_int_1_step, dec_lt hk, br_true, okI_nat hk, ck_true, at_nat, w64_succ (by omega), slices_Index_int_int_1_cr]
      by_cases he : i = s.getD k 0
      · left
        have hm : i ∈ s := he ▸ getD_mem hk 0
        rw [beq_iff_eq.2 he, br_true, if_pos hm]
        have hx : s.idxOf i = k := by
          have h1 : s.idxOf i < s.length := List.idxOf_lt_length_of_mem hm
          have h2 : s.getD (s.idxOf i) 0 = i := by simp [List.getD, h1]
          rcases Nat.lt_trichotomy (s.idxOf i) k with hlt | heq | hgt
          · exact absurd h2 (hI _ hlt)
          · exact heq
          · have := List.not_of_lt_findIdx (p := (· == i)) (xs := s) hgt
            have h3 : s[k]'(by omega) = i := by
              rw [he]
              simp [List.getD, hk]
            simp [h3] at this
        rw [hx]
      · right
        rw [beq_eq_false_iff_ne.2 he, br_false]
        refine ⟨(), rfl, fun j hj => ?_⟩
        by_cases hjk : j = k
        · exact fun e => he (hjk ▸ e.symm)
        · exact hI j (by omega)
    · try dsimp only
      have hm : i ∉ s := by
        intro hm
        obtain ⟨j, hj, e⟩ := List.mem_iff_getElem.1 hm
        exact hI j hj (by simp [List.getD, hj, e])
      rw [slices_Index_int_int_1_step, dec_nlt, br_false, slices_Index_int_int_1_ce0, if_neg hm]
  obtain ⟨j, h1, h2⟩ := key
  rw [slices_Contains_int_int_eq, h1, bnd, h2]
theorem SetHas_law2 {s : List Int} (h : s.length ≤ 1073741824) (i : Int) : impl_SetHas F0 s i = some (decide (i ∈ s), ()) := by
  rw [impl_SetHas_eq, Contains_law h, bnd]
/-! ### Adding -/
def insL (i : Int) : List Int → List Int
  | [] => [i]
  | x :: l => if x ≥ i then i :: x :: l else x :: insL i l
def setA (s : List Int) (i : Int) : List Int := if i ∈ s then s else insL i s
theorem insL_len (i : Int) : ∀ s : List Int, (insL i s).length = s.length + 1
  | [] => rfl
  | x :: l => by
    unfold insL
    split
    · rfl
    · simp [insL_len i l]
theorem setA_len (s : List Int) (i : Int) : (setA s i).length ≤ s.length + 1 := by
  unfold setA
  split
  · omega
  · rw [insL_len]
    exact Nat.le_refl _
theorem insL_at {i : Int} : ∀ {s : List Int} {k : Nat}, k ≤ s.length → (∀ j (h : j < s.length), j < k → s[j] < i) → (∀ h : k < s.length, ¬ s[k] < i) → insL i s = s.take k ++ i :: s.drop k
  | [], k, _, _, _ => by simp [insL]
  | x :: l, 0, _, _, h => by
    have := h (by simp)
    simp only [List.getElem_cons_zero] at this
    unfold insL
    rw [if_pos (by omega)]
    rfl
  | x :: l, k + 1, hk, h1, h2 => by
    have hx := h1 0 (by simp) (by omega)
    simp only [List.getElem_cons_zero] at hx
    unfold insL
    rw [if_neg (by omega), List.take_succ_cons, List.drop_succ_cons, List.cons_append, insL_at (k := k) (by simpa using hk) (fun j h hj => h1 (j + 1) (by simp only [List.length_cons]; omega) (by omega)) (fun h => h2 (by simp only [List.length_cons]; omega))]
theorem okS_nat {l h n : Nat} (h1 : l ≤ h) (h2 : h ≤ n) : okS (l : Int) (h : Int) (n : Int) = true := by simp [okS]; omega
theorem SetAdd_law {s : List Int} (h : s.length ≤ 1048576) (i : Int) : spec_SetAdd F0 s i = some (setA s i, ()) := by
  rw [spec_SetAdd_eq, SetHas_law (by omega), bnd]
  unfold setA
  by_cases hm : i ∈ s
  · rw [decide_eq_true hm, br_true, if_pos hm, okA_le (by omega) (by omega) (by omega), ck_true]
    rfl
  · rw [decide_eq_false hm, br_false, if_neg hm]
    have fin : ∀ k : Nat, k ≤ s.length → (∀ j (h : j < s.length), j < k → s[j] < i) → (∀ h : k < s.length, ¬ s[k] < i) → spec_SetAdd_1_k F0 (.exit 0) (spec_SetAdd_1_e0 s i (k : Int)) = some (insL i s, ()) := by
      intro k hk h1 h2
      rw [spec_SetAdd_1_ce0, show okS 0 (k : Int) (s.length : Int) = true from okS_nat (l := 0) (Nat.zero_le _) hk, ck_true, Int.toNat_natCast, Int.toNat_natCast, show (0 : Int).toNat = 0 from rfl, List.drop_zero, List.nil_append, List.take_length,
        okA_le (by omega) (by omega) (by rw [List.length_take]; omega), ck_true, okA_le (by omega) (by omega) (by rw [List.length_take]; simp only [List.length_cons, List.length_nil]; omega), ck_true, okS_nat hk (Nat.le_refl _), ck_true,
        okA_le (by omega) (by omega) (by rw [List.length_append, List.length_take, List.length_drop]; simp only [List.length_cons, List.length_nil]; omega), ck_true, insL_at hk h1 h2]
      simp
    refine loop_to (fun n k (_ : Unit) => spec_SetAdd_1 F0 (spec_SetAdd_1_k F0) n (spec_SetAdd_1_s s i k)) s.length (fun k _ => ∀ j (h : j < s.length), j < k → s[j] < i) _ (fun n k _ hk hI => ?_) (fun n _ hI => ?_) F0.n 0 () (Nat.zero_le _) (fun j _ hj => absurd hj (Nat.not_lt_zero _)) (by rw [n_eq]; omega)
    · try dsimp only
      rw [spec_SetAdd_1_step, dec_lt hk, br_true, okI_nat hk, ck_true, at_is hk, w64_succ (by omega)]
      by_cases hlt : s[k] < i
      · right
        rw [decide_eq_true hlt, br_true]
        refine ⟨(), rfl, fun j hj hjk => ?_⟩
        by_cases e : j = k
        · subst e; exact hlt
        · exact hI j hj (by omega)
      · left
        rw [decide_eq_false hlt, br_false]
        exact fin k (by omega) hI (fun _ => hlt)
    · try dsimp only
      rw [spec_SetAdd_1_step, dec_nlt, br_false]
      exact fin s.length (Nat.le_refl _) hI (fun h => absurd h (Nat.lt_irrefl _))
theorem copyInts_law {l : List Int} (h : l.length ≤ 1073741824) : impl_copyInts F0 l = some (l, ()) := by
  rw [impl_copyInts_eq, okA_le (by omega) (by omega) (by omega), ck_true]
  rfl
theorem idxL_spec {α : Type} (p : α → Bool) : ∀ (l : List α) (j : Nat), (idxL p l (j : Int) = -1 ∧ ∀ x ∈ l, p x = false) ∨ ∃ k, ∃ h : k < l.length, idxL p l (j : Int) = ((j + k : Nat) : Int) ∧ p l[k] = true ∧ ∀ i (hi : i < l.length), i < k → p l[i] = false
  | [], j => .inl ⟨rfl, by simp⟩
  | x :: l, j => by
    unfold idxL
    cases hp : p x with
    | true => exact .inr ⟨0, by simp, by simp, by simpa using hp, fun i _ hi => absurd hi (Nat.not_lt_zero _)⟩
    | false =>
      have e : (j : Int) + 1 = ((j + 1 : Nat) : Int) := by omega
      dsimp only
      rw [e]
      rcases idxL_spec p l (j + 1) with ⟨h1, h2⟩ | ⟨k, hk, h1, h2, h3⟩
      · refine .inl ⟨h1, fun y hy => ?_⟩
        rcases List.mem_cons.1 hy with rfl | hy
        · exact hp
        · exact h2 y hy
      · refine .inr ⟨k + 1, by simpa using hk, by rw [h1]; omega, by simpa using h2, fun i hi hik => ?_⟩
        cases i with
        | zero => simpa using hp
        | succ i => simpa using h3 i (by simpa using hi) (by omega)
theorem okIns_nat {k a b : Nat} (h1 : k ≤ a) (h2 : 1 ≤ b) (h3 : a + b ≤ 1073741824) : okIns (k : Int) a b = true := by
  unfold okIns
  rw [decide_eq_true (show (0 : Int) ≤ k by omega), decide_eq_true (show (k : Int) ≤ a by omega), decide_eq_true (show (1 : Int) ≤ b by omega), decide_eq_true (show ((a + b : Nat) : Int) ≤ 1073741824 by omega)]
  rfl
theorem SetAdd_law2 {s : List Int} (h : s.length ≤ 1048576) (i : Int) : impl_SetAdd F0 s i = some (setA s i, ()) := by
  rw [impl_SetAdd_eq, SetHas_law2 (by omega), bnd]
  unfold setA
  by_cases hm : i ∈ s
  · rw [decide_eq_true hm, br_true, if_pos hm, copyInts_law (by omega), bnd]
  · rw [decide_eq_false hm, br_false, if_neg hm]
    rcases idxL_spec (fun e => geP e i) s 0 with ⟨h1, h2⟩ | ⟨k, hk, h1, h2, h3⟩
    · have h1 : idxL (fun e => geP e i) s 0 = -1 := h1
      rw [h1, show decide ((-1 : Int) < 0) = true from rfl, br_true, copyInts_law (by omega), bnd, okIns_nat (Nat.le_refl _) (by simp) (by simp only [List.length_cons, List.length_nil]; omega), ck_true, Int.toNat_natCast,
        insL_at (k := s.length) (Nat.le_refl _) (fun j hj _ => ?_) (fun h => absurd h (Nat.lt_irrefl _))]
      · simp
      · have := of_decide_eq_false (h2 s[j] (List.getElem_mem hj))
        omega
    · have h1 : idxL (fun e => geP e i) s 0 = ((0 + k : Nat) : Int) := h1
      rw [Nat.zero_add] at h1
      have h2 := of_decide_eq_true h2
      rw [h1, show decide (((k : Nat) : Int) < 0) = false from decide_eq_false (by omega), br_false, copyInts_law (by omega), bnd, okIns_nat (k := k) (a := s.length) (by omega) (by simp) (by simp only [List.length_cons, List.length_nil]; omega), ck_true, Int.toNat_natCast,
        insL_at (k := k) (by omega) (fun j hj hjk => ?_) (fun _ => by omega)]
      · simp
      · have := of_decide_eq_false (h3 j hj hjk)
        omega
/-! ### The replicas that are named -/
def inR (lo hi x : Int) : Bool := decide (lo ≤ x) && decide (x ≤ hi)
def someL (hi : Int) : List Int → List Int → List Int
  | out, [] => out
  | out, x :: l => someL hi (if inR 0 hi x = true then setA out x else out) l
theorem l1In_lawR (x lo hi : Int) : spec_l1In F0 x lo hi = some (inR lo hi x, ()) := l1In_law x lo hi
theorem within_law3 (x lo hi : Int) : impl_within F0 x lo hi = some (inR lo hi x, ()) := within_law x lo hi
theorem someL_snoc (hi : Int) : ∀ (l : List Int) (out : List Int) (x : Int), someL hi out (l ++ [x]) = if inR 0 hi x = true then setA (someL hi out l) x else someL hi out l
  | [], _, _ => rfl
  | y :: l, out, x => by
    simp only [List.cons_append, someL]
    exact someL_snoc hi l _ x
theorem someL_len (hi : Int) : ∀ (l out : List Int), (someL hi out l).length ≤ out.length + l.length
  | [], out => by simp [someL]
  | x :: l, out => by
    unfold someL
    have h1 := someL_len hi l (if inR 0 hi x = true then setA out x else out)
    have h2 := setA_len out x
    have h3 : (if inR 0 hi x = true then setA out x else out).length ≤ out.length + 1 := by split <;> omega
    rw [List.length_cons]
    omega
theorem take_succ_is {α : Type} {l : List α} {k : Nat} (h : k < l.length) : l.take (k + 1) = l.take k ++ [l[k]] := by
  rw [List.take_add_one, List.getElem?_eq_getElem h]
  rfl
theorem l22Some_law (c : Int × Int) {who : List Int} (h : who.length ≤ 1048576) : spec_l22Some F0 c who = some (someL (w64 (c.1 - 1)) [] who, ()) := by
  rw [spec_l22Some_eq]
  refine loop_to (fun n i xs => spec_l22Some_1 F0 (spec_l22Some_1_k F0) n (spec_l22Some_1_s who i c.1 c.2 xs)) who.length (fun k xs => xs = someL (w64 (c.1 - 1)) [] (who.take k)) _ (fun n k xs hk hI => ?_) (fun n xs hI => ?_) F0.n 0 [] (Nat.zero_le _) rfl (by rw [n_eq]; omega)
  · have hl := someL_len (w64 (c.1 - 1)) (who.take k) []
    rw [← hI, List.length_take, List.length_nil] at hl
    right
    refine ⟨if inR 0 (w64 (c.1 - 1)) who[k] = true then setA xs who[k] else xs, ?_, by rw [take_succ_is hk, someL_snoc, ← hI]⟩
    rw [spec_l22Some_1_step, dec_lt hk, br_true, okI_nat hk, ck_true, at_is hk, l1In_lawR, bnd]
    simp only [ck_true]
    rw [w64_succ (by omega)]
    cases hb : inR 0 (w64 (c.1 - 1)) who[k] with
    | true => rw [br_true, SetAdd_law (by omega), bnd]; rfl
    | false => rw [br_false]; rfl
  · rw [List.take_length] at hI
    rw [spec_l22Some_1_step, dec_nlt, br_false, spec_l22Some_1_ce0, hI]
theorem replicasOf_law (c : Int × Int) {who : List Int} (h : who.length ≤ 1048576) : impl_replicasOf F0 c who = some (someL (w64 (c.1 - 1)) [] who, ()) := by
  rw [impl_replicasOf_eq]
  refine loop_to (fun n i xs => impl_replicasOf_1 F0 (impl_replicasOf_1_k F0) n (impl_replicasOf_1_s who (who.length : Int) i c.1 c.2 xs)) who.length (fun k xs => xs = someL (w64 (c.1 - 1)) [] (who.take k)) _ (fun n k xs hk hI => ?_) (fun n xs hI => ?_) F0.n 0 [] (Nat.zero_le _) rfl (by rw [n_eq]; omega)
  · have hl := someL_len (w64 (c.1 - 1)) (who.take k) []
    rw [← hI, List.length_take, List.length_nil] at hl
    right
    refine ⟨if inR 0 (w64 (c.1 - 1)) who[k] = true then setA xs who[k] else xs, ?_, by rw [take_succ_is hk, someL_snoc, ← hI]⟩
    rw [impl_replicasOf_1_step, dec_lt hk, br_true, okI_nat hk, ck_true, at_is hk, within_law3, bnd]
    simp only
    rw [w64_succ (by omega)]
    cases hb : inR 0 (w64 (c.1 - 1)) who[k] with
    | true => rw [br_true, SetAdd_law2 (by omega), bnd]; rfl
    | false => rw [br_false]; rfl
  · rw [List.take_length] at hI
    rw [impl_replicasOf_1_step, dec_nlt, br_false, impl_replicasOf_1_ce0, hI]
end Go.Am.Try
