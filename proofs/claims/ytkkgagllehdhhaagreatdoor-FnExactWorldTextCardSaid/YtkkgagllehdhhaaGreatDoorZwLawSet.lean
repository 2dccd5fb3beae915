/- Plain laws: sets. No condition. -/
import Derived.Test.YtkkgagllehdhhaaGreatDoorZwLawLed
set_option linter.unusedVariables false
set_option linter.unusedSimpArgs false
namespace Go.Am.Tryz
open Go.Am
/-! ### Searches -/
theorem all_to {β : Type} (X : Nat → Int → Option β) (L : Nat) (p : Nat → Bool) (Rt Rf : Option β) (hs : ∀ n k, k < L → X (n + 1) (k : Int) = if p k = true then X n ((k + 1 : Nat) : Int) else Rf) (he : ∀ n, X (n + 1) (L : Int) = Rt) (n : Nat) (hn : L < n) :
    X n 0 = if (List.range L).all p = true then Rt else Rf := by
  refine loop_to (fun n i (_ : Unit) => X n i) L (fun k _ => ∀ j, j < k → p j = true) _ (fun n k _ hk h => ?_) (fun n _ h => ?_) n 0 () (Nat.zero_le _) (fun j hj => absurd hj (Nat.not_lt_zero _)) (by omega)
  · try dsimp only
    rw [hs n k hk]
    by_cases hp : p k = true
    · rw [if_pos hp]
      refine .inr ⟨(), rfl, fun j hj => ?_⟩
      by_cases hjk : j = k
      · exact hjk ▸ hp
      · exact h j (by omega)
    · rw [if_neg hp, if_neg]
      · exact .inl rfl
      · intro ha
        exact hp (List.all_eq_true.1 ha k (List.mem_range.2 hk))
  · try dsimp only
    rw [he, if_pos]
    exact List.all_eq_true.2 fun j hj => h j (List.mem_range.1 hj)
theorem all_getD {α : Type} (s : List α) (q : α → Bool) (d : α) : (List.range s.length).all (fun k => q (s.getD k d)) = s.all q := by
  rw [Bool.eq_iff_iff, List.all_eq_true, List.all_eq_true]
  constructor
  · intro h x hx
    obtain ⟨i, hi, rfl⟩ := List.mem_iff_getElem.1 hx
    have := h i (List.mem_range.2 hi)
    simpa [List.getD, hi] using this
  · intro h k hk
    exact h _ (getD_mem (List.mem_range.1 hk) d)
theorem all_ne (s : List Int) (i : Int) : (s.all fun x => !(x == i)) = !decide (i ∈ s) := by
  rw [Bool.eq_iff_iff, List.all_eq_true]
  simp only [Bool.not_eq_true', beq_eq_false_iff_ne, decide_eq_false_iff_not]
  exact ⟨fun h hi => h i hi rfl, fun h x hx e => h (e ▸ hx)⟩
theorem ite_not (b : Bool) {α : Type} (x y : α) : (if (!b) = true then x else y) = if b = true then y else x := by cases b <;> rfl
theorem br_ite {α : Type} (b : Bool) (x y : α) : br b x y = if b = true then x else y := by cases b <;> rfl
/-! ### Adding -/
def insL (i : Int) : List Int → List Int
  | [] => [i]
  | x :: l => if x ≥ i then i :: x :: l else x :: insL i l
def setA (s : List Int) (i : Int) : List Int := if i ∈ s then s else insL i s
theorem insL_len (i : Int) : ∀ s : List Int, (insL i s).length = s.length + 1
  | [] => rfl
  | x :: l => by
    unfold insL
    split
    · rfl
    · simp [insL_len i l]
theorem setA_len (s : List Int) (i : Int) : (setA s i).length ≤ s.length + 1 := by
  unfold setA
  split
  · omega
  · rw [insL_len]
    exact Nat.le_refl _
theorem insL_at {i : Int} : ∀ {s : List Int} {k : Nat}, k ≤ s.length → (∀ j (h : j < s.length), j < k → s[j] < i) → (∀ h : k < s.length, ¬ s[k] < i) → insL i s = s.take k ++ i :: s.drop k
  | [], k, _, _, _ => by simp [insL]
  | x :: l, 0, _, _, h => by
    have := h (by simp)
    simp only [List.getElem_cons_zero] at this
    unfold insL
    rw [if_pos (by omega)]
    rfl
  | x :: l, k + 1, hk, h1, h2 => by
    have hx := h1 0 (by simp) (by omega)
    simp only [List.getElem_cons_zero] at hx
    unfold insL
    rw [if_neg (by omega), List.take_succ_cons, List.drop_succ_cons, List.cons_append, insL_at (k := k) (by simpa using hk) (fun j h hj => h1 (j + 1) (by simp only [List.length_cons]; omega) (by omega)) (fun h => h2 (by simp only [List.length_cons]; omega))]
theorem okS_nat {l h n : Nat} (h1 : l ≤ h) (h2 : h ≤ n) : okS (l : Int) (h : Int) (n : Int) = true := by simp [okS]; omega
theorem idxL_spec {α : Type} (p : α → Bool) : ∀ (l : List α) (j : Nat), (idxL p l (j : Int) = -1 ∧ ∀ x ∈ l, p x = false) ∨ ∃ k, ∃ h : k < l.length, idxL p l (j : Int) = ((j + k : Nat) : Int) ∧ p l[k] = true ∧ ∀ i (hi : i < l.length), i < k → p l[i] = false
  | [], j => .inl ⟨rfl, by simp⟩
  | x :: l, j => by
    unfold idxL
    cases hp : p x with
    | true => exact .inr ⟨0, by simp, by simp, by simpa using hp, fun i _ hi => absurd hi (Nat.not_lt_zero _)⟩
    | false =>
      have e : (j : Int) + 1 = ((j + 1 : Nat) : Int) := by omega
      dsimp only
      rw [e]
      rcases idxL_spec p l (j + 1) with ⟨h1, h2⟩ | ⟨k, hk, h1, h2, h3⟩
      · refine .inl ⟨h1, fun y hy => ?_⟩
        rcases List.mem_cons.1 hy with rfl | hy
        · exact hp
        · exact h2 y hy
      · refine .inr ⟨k + 1, by simpa using hk, by rw [h1]; omega, by simpa using h2, fun i hi hik => ?_⟩
        cases i with
        | zero => simpa using hp
        | succ i => simpa using h3 i (by simpa using hi) (by omega)
theorem okIns_nat {k a b : Nat} (h1 : k ≤ a) (h2 : 1 ≤ b) (h3 : a + b ≤ 1073741824) : okIns (k : Int) a b = true := by
  unfold okIns
  rw [decide_eq_true (show (0 : Int) ≤ k by omega), decide_eq_true (show (k : Int) ≤ a by omega), decide_eq_true (show (1 : Int) ≤ b by omega), decide_eq_true (show ((a + b : Nat) : Int) ≤ 1073741824 by omega)]
  rfl
/-! ### The replicas that are named -/
def inR (lo hi x : Int) : Bool := decide (lo ≤ x) && decide (x ≤ hi)
def someL (hi : Int) : List Int → List Int → List Int
  | out, [] => out
  | out, x :: l => someL hi (if inR 0 hi x = true then setA out x else out) l
theorem l1In_lawR (x lo hi : Int) : spec_l1In F0 x lo hi = some (inR lo hi x, ()) := l1In_law x lo hi
theorem within_law3 (x lo hi : Int) : impl_within F0 x lo hi = some (inR lo hi x, ()) := within_law x lo hi
theorem someL_snoc (hi : Int) : ∀ (l : List Int) (out : List Int) (x : Int), someL hi out (l ++ [x]) = if inR 0 hi x = true then setA (someL hi out l) x else someL hi out l
  | [], _, _ => rfl
  | y :: l, out, x => by
    simp only [List.cons_append, someL]
    exact someL_snoc hi l _ x
theorem someL_len (hi : Int) : ∀ (l out : List Int), (someL hi out l).length ≤ out.length + l.length
  | [], out => by simp [someL]
  | x :: l, out => by
    unfold someL
    have h1 := someL_len hi l (if inR 0 hi x = true then setA out x else out)
    have h2 := setA_len out x
    have h3 : (if inR 0 hi x = true then setA out x else out).length ≤ out.length + 1 := by split <;> omega
    rw [List.length_cons]
    omega
theorem take_succ_is {α : Type} {l : List α} {k : Nat} (h : k < l.length) : l.take (k + 1) = l.take k ++ [l[k]] := by
  rw [List.take_add_one, List.getElem?_eq_getElem h]
  rfl
end Go.Am.Tryz
