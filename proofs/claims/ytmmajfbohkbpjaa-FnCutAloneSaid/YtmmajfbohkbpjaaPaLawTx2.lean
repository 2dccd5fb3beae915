/- Plain laws: payments as texts and out of texts. No condition. -/
import Derived.Test.YtmmajfbohkbpjaaPaLawTx
set_option linter.unusedVariables false
set_option linter.unusedSimpArgs false
namespace Go.Am.Try
open Go.Am
abbrev TxD := Int × (Int × (Int × Int))
theorem l1In_law (x lo hi : Int) : spec_l1In F0 x lo hi = some (decide (lo ≤ x) && decide (x ≤ hi), ()) := by
  rw [spec_l1In_eq]
  by_cases h : lo ≤ x
  · rw [decide_eq_true (show x ≥ lo from h), br_true, Bool.true_and]
  · rw [decide_eq_false (show ¬ x ≥ lo from h), br_false, Bool.false_and]
theorem within_law (x lo hi : Int) : impl_within F0 x lo hi = some (decide (lo ≤ x) && decide (x ≤ hi), ()) := by
  rw [impl_within_eq]
  by_cases h : lo ≤ x
  · rw [decide_eq_true (show x ≥ lo from h), br_true, Bool.true_and]
  · rw [decide_eq_false (show ¬ x ≥ lo from h), br_false, Bool.false_and]
def inB (x lo hi : Int) : Bool := decide (lo ≤ x) && decide (x ≤ hi)
def txOk (x : TxD) : Bool := inB x.1 0 3 && inB x.2.1 0 3 && inB x.2.2.1 0 1000 && inB x.2.2.2 0 99
theorem br_and (a b : Bool) : br a (some (b, ())) (some (false, ())) = some (a && b, ()) := by cases a <;> rfl
theorem TxOk_law (x : TxD) : spec_TxOk F0 x = some (txOk x, ()) := by
  rw [spec_TxOk_eq]
  simp only [l1In_law, bnd, br_and]
  simp only [txOk, inB, Bool.and_assoc]
theorem txOk_spec {x : TxD} (h : txOk x = true) : (0 ≤ x.1 ∧ x.1 ≤ 3) ∧ (0 ≤ x.2.1 ∧ x.2.1 ≤ 3) ∧ (0 ≤ x.2.2.1 ∧ x.2.2.1 ≤ 1000) ∧ (0 ≤ x.2.2.2 ∧ x.2.2.2 ≤ 99) := by
  simp only [txOk, inB, Bool.and_eq_true, decide_eq_true_eq] at h
  exact ⟨h.1.1.1, h.1.1.2, h.1.2, h.2⟩
def txL (x : TxD) : List UInt8 := Lib.itoa x.1 ++ 62 :: (Lib.itoa x.2.1 ++ 58 :: (Lib.itoa x.2.2.1 ++ 35 :: Lib.itoa x.2.2.2))
theorem txL_le {x : TxD} (h : txOk x = true) : (txL x).length ≤ 90 := by
  obtain ⟨h1, h2, h3, h4⟩ := txOk_spec h
  have e1 := itoa_le (n := x.1) ⟨by omega, by omega⟩
  have e2 := itoa_le (n := x.2.1) ⟨by omega, by omega⟩
  have e3 := itoa_le (n := x.2.2.1) ⟨by omega, by omega⟩
  have e4 := itoa_le (n := x.2.2.2) ⟨by omega, by omega⟩
  simp only [txL, List.length_append, List.length_cons]
  omega
def txText (x : TxD) : List UInt8 := if txOk x = true then txL x else []
theorem TxText_law (x : TxD) : spec_TxText F0 x = some (tx (txText x), ()) := by
  rw [spec_TxText_eq, TxOk_law, bnd]
  unfold txText
  cases h : txOk x with
  | false => rfl
  | true =>
    obtain ⟨h1, h2, h3, h4⟩ := txOk_spec h
    have d1 := digits_law (n := x.1) ⟨by omega, by omega⟩
    have d2 := digits_law (n := x.2.1) ⟨by omega, by omega⟩
    have d3 := digits_law (n := x.2.2.1) ⟨by omega, by omega⟩
    have d4 := digits_law (n := x.2.2.2) ⟨by omega, by omega⟩
    have e := txL_le h
    simp only [txL, List.length_append, List.length_cons] at e
    simp only [Bool.not_true, br_false, d1, d2, d3, d4, bnd, show ByteArray.mk #[62] = tx [62] from rfl, show ByteArray.mk #[58] = tx [58] from rfl, show ByteArray.mk #[35] = tx [35] from rfl, tx_append, tx_size]
    rw [okC_le (by simp only [List.length_append, List.length_cons, List.length_nil]; omega), ck_true, okC_le (by simp only [List.length_append, List.length_cons, List.length_nil]; omega), ck_true, okC_le (by simp only [List.length_append, List.length_cons, List.length_nil]; omega), ck_true, okC_le (by simp only [List.length_append, List.length_cons, List.length_nil]; omega), ck_true, okC_le (by simp only [List.length_append, List.length_cons, List.length_nil]; omega), ck_true, okC_le (by simp only [List.length_append, List.length_cons, List.length_nil]; omega), ck_true]
    simp [txL]
/-! ### Numerals read back -/
theorem dec_all (u : Nat) : ∀ c ∈ Lib.decDigits u, isD c = true := by
  induction u using Nat.strongRecOn with
  | ind u ih =>
    intro c hc
    rw [Lib.decDigits] at hc
    have key : ∀ v : Nat, v < 10 → isD (UInt8.ofNat (48 + v)) = true := fun v hv => by
      have : (UInt8.ofNat (48 + v)).toNat = 48 + v := by rw [UInt8.toNat_ofNat']; omega
      simp only [isD, this, Bool.and_eq_true, decide_eq_true_eq]
      omega
    by_cases h10 : u < 10
    · rw [dif_pos h10, List.mem_singleton] at hc
      rw [hc]
      exact key u h10
    · rw [dif_neg h10] at hc
      rcases List.mem_append.1 hc with hc | hc
      · exact ih (u / 10) (by omega) c hc
      · rw [List.mem_singleton] at hc
        rw [hc]
        exact key _ (Nat.mod_lt _ (by omega))
theorem dec_val (u : Nat) : val (Lib.decDigits u) 0 = u := by
  induction u using Nat.strongRecOn with
  | ind u ih =>
    have key : ∀ v : Nat, v < 10 → (UInt8.ofNat (48 + v)).toNat = 48 + v := fun v hv => by rw [UInt8.toNat_ofNat']; omega
    rw [Lib.decDigits]
    by_cases h10 : u < 10
    · rw [dif_pos h10]
      simp only [val, key u h10]
      omega
    · rw [dif_neg h10, val_append, ih (u / 10) (by omega)]
      simp only [val, key (u % 10) (Nat.mod_lt _ (by omega))]
      omega
theorem dec_len {k : Nat} : ∀ {u : Nat}, u < 10 ^ (k + 1) → 1 ≤ (Lib.decDigits u).length ∧ (Lib.decDigits u).length ≤ k + 1 := by
  induction k with
  | zero =>
    intro u hu
    rw [Lib.decDigits, dif_pos (by omega)]
    simp
  | succ k ih =>
    intro u hu
    rw [Lib.decDigits]
    by_cases h10 : u < 10
    · rw [dif_pos h10]
      simp
    · rw [dif_neg h10]
      have := ih (u := u / 10) (by rw [Nat.pow_succ] at hu; omega)
      rw [List.length_append, List.length_singleton]
      omega
theorem itoa_nat (u : Nat) : Lib.itoa (u : Int) = Lib.decDigits u := Lib.itoa_nonneg u
theorem numL_itoa {n : Int} (h0 : 0 ≤ n) (h1 : n ≤ 999999) : numL (Lib.itoa n) = (n, true) := by
  obtain ⟨u, rfl⟩ : ∃ u : Nat, n = u := ⟨n.toNat, by omega⟩
  rw [itoa_nat]
  have hl := dec_len (k := 5) (u := u) (by omega)
  unfold numL
  rw [if_neg (by omega), if_pos (List.all_eq_true.2 (dec_all u)), dec_val, itoa_nat, if_pos rfl]
theorem no_sep {n : Int} (h0 : 0 ≤ n) {c : UInt8} (hc : isD c = false) : c ∉ Lib.itoa n := by
  obtain ⟨u, rfl⟩ : ∃ u : Nat, n = u := ⟨n.toNat, by omega⟩
  rw [itoa_nat]
  intro h
  rw [dec_all u c h] at hc
  cases hc
/-! ### Out of a text -/
def cutS (l : List UInt8) (c : UInt8) : List UInt8 × List UInt8 := if c ∈ l then (l.takeWhile (· != c), (l.dropWhile (· != c)).drop 1) else ([], [])
def cutI (l : List UInt8) (c : UInt8) : List UInt8 × List UInt8 := (l.takeWhile (· != c), (l.dropWhile (· != c)).drop 1)
def parS (l : List UInt8) : TxD := ((numL (cutS l 62).1).1, ((numL (cutS (cutS l 62).2 58).1).1, ((numL (cutS (cutS (cutS l 62).2 58).2 35).1).1, (numL (cutS (cutS (cutS l 62).2 58).2 35).2).1)))
def parI (l : List UInt8) : TxD := ((numL (cutI l 62).1).1, ((numL (cutI (cutI l 62).2 58).1).1, ((numL (cutI (cutI (cutI l 62).2 58).2 35).1).1, (numL (cutI (cutI (cutI l 62).2 58).2 35).2).1)))
theorem cutS_at {a b : List UInt8} {c : UInt8} (h : c ∉ a) : cutS (a ++ c :: b) c = (a, b) := by
  unfold cutS
  rw [if_pos (by simp), (tw_at h).1, (tw_at h).2]
  rfl
theorem cutI_at {a b : List UInt8} {c : UInt8} (h : c ∉ a) : cutI (a ++ c :: b) c = (a, b) := by
  unfold cutI
  rw [(tw_at h).1, (tw_at h).2]
  rfl
theorem parS_txL {x : TxD} (h : txOk x = true) : parS (txL x) = x := by
  obtain ⟨h1, h2, h3, h4⟩ := txOk_spec h
  unfold parS txL
  rw [cutS_at (no_sep h1.1 (by decide)), cutS_at (no_sep h2.1 (by decide)), cutS_at (no_sep h3.1 (by decide))]
  simp only [numL_itoa h1.1 (by omega), numL_itoa h2.1 (by omega), numL_itoa h3.1 (by omega), numL_itoa h4.1 (by omega)]
theorem parI_txL {x : TxD} (h : txOk x = true) : parI (txL x) = x := by
  obtain ⟨h1, h2, h3, h4⟩ := txOk_spec h
  unfold parI txL
  rw [cutI_at (no_sep h1.1 (by decide)), cutI_at (no_sep h2.1 (by decide)), cutI_at (no_sep h3.1 (by decide))]
  simp only [numL_itoa h1.1 (by omega), numL_itoa h2.1 (by omega), numL_itoa h3.1 (by omega), numL_itoa h4.1 (by omega)]
def txOf (l : List UInt8) : TxD × Bool := if txOk (parS l) = true ∧ txL (parS l) = l then (parS l, true) else ((0, (0, (0, 0))), false)
theorem drop1_le (l : List UInt8) (c : UInt8) : ((l.dropWhile (· != c)).drop 1).length ≤ l.length := by
  rw [List.length_drop]
  have := (List.dropWhile_sublist (l := l) (· != c)).length_le
  omega
theorem cutS_le (l : List UInt8) (c : UInt8) : (cutS l c).2.length ≤ l.length := by
  unfold cutS
  split
  · exact drop1_le l c
  · simp
theorem cutI_le (l : List UInt8) (c : UInt8) : (cutI l c).2.length ≤ l.length := drop1_le l c
theorem l2Cut_tx {l : List UInt8} (c : UInt8) (hl : l.length ≤ 4294967296) : ∃ b, spec_l2Cut F0 (tx l) (c.toNat : Int) = some (tx (cutS l c).1, tx (cutS l c).2, b, ()) := by
  rw [l2Cut_law c hl]
  unfold cutS
  split
  · exact ⟨_, rfl⟩
  · exact ⟨_, rfl⟩
theorem TxOf_law {l : List UInt8} (hl : l.length ≤ 4294967280) : spec_TxOf F0 (tx l) = some ((txOf l).1, (txOf l).2, ()) := by
  obtain ⟨b1, e1⟩ := l2Cut_tx (l := l) 62 (by omega)
  obtain ⟨b2, e2⟩ := l2Cut_tx (l := (cutS l 62).2) 58 (by have := cutS_le l 62; omega)
  obtain ⟨b3, e3⟩ := l2Cut_tx (l := (cutS (cutS l 62).2 58).2) 35 (by have := cutS_le l 62; have := cutS_le (cutS l 62).2 58; omega)
  rw [spec_TxOf_eq]
  rw [show spec_l2Cut F0 (tx l) 62 = _ from e1, bnd, show spec_l2Cut F0 _ 58 = _ from e2, bnd, show spec_l2Cut F0 _ 35 = _ from e3, bnd, number_law, bnd, number_law, bnd, number_law, bnd, number_law, bnd, show (ByteArray.mk #[]) = tx [] from rfl, tl_eq]
  have hp : ((numL (cutS l 62).1).1, ((numL (cutS (cutS l 62).2 58).1).1, ((numL (cutS (cutS (cutS l 62).2 58).2 35).1).1, (numL (cutS (cutS (cutS l 62).2 58).2 35).2).1))) = parS l := rfl
  simp only [hp, TxText_law, bnd, tl_eq]
  unfold txOf txText
  by_cases hok : txOk (parS l) = true
  · rw [if_pos hok]
    by_cases ht : txL (parS l) = l
    · have hne : ¬ l = [] := by
        rw [← ht]
        simp [txL]
      rw [if_pos ⟨hok, ht⟩, decide_eq_false hne, br_false, decide_eq_true ht]
      rfl
    · rw [if_neg (fun h => ht h.2), decide_eq_false ht]
      cases decide (l = []) <;> rfl
  · rw [if_neg hok, if_neg (fun h => hok h.1)]
    by_cases hne : l = []
    · rw [decide_eq_true hne]
      rfl
    · rw [decide_eq_false hne, br_false, decide_eq_false (fun h => hne h.symm)]
      rfl
theorem txOf_ok {l : List UInt8} (h : (txOf l).2 = true) : txOk (txOf l).1 = true := by
  unfold txOf at h ⊢
  split
  · rename_i h1
    exact h1.1
  · rename_i h1
    rw [if_neg h1] at h
    cases h
theorem txOf_i64 (l : List UInt8) : txOk (txOf l).1 = true := by
  unfold txOf
  split
  · rename_i h1
    exact h1.1
  · rfl
end Go.Am.Try
