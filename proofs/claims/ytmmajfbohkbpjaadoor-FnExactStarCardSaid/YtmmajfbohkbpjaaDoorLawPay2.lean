/- Plain laws: a payment. No condition. -/
import Derived.Test.YtmmajfbohkbpjaaDoorLawPay
set_option linter.unusedVariables false
set_option linter.unusedSimpArgs false
namespace Go.Am.Tryd
open Go.Am
theorem dT {p : Prop} (i : Decidable p) (h : p) : @decide p i = true := decide_eq_true h
theorem dF {p : Prop} (i : Decidable p) (h : ¬ p) : @decide p i = false := decide_eq_false h
theorem set_mem {a : List Int} {k : Nat} {v : Int} {lo hi : Int} (ha : ∀ x ∈ a, lo ≤ x ∧ x ≤ hi) (hv : lo ≤ v ∧ v ≤ hi) : ∀ x ∈ a.set k v, lo ≤ x ∧ x ≤ hi := fun x hx => by
  rcases List.mem_or_eq_of_mem_set hx with h | h
  · exact ha x h
  · rw [h]; exact hv
theorem Pay_law {l : LedD} (h1 : l.1.length ≤ 1048576) (h2 : l.2.length ≤ 1048576) (x : TxD) : spec_Pay F0 l x = some ((payD l x).1, (payD l x).2, ()) := by
  rw [spec_Pay_eq, l3Copy_law h1 h2, bnd, LedgerOk_law, bnd]
  unfold payD
  cases hl : ledOk l with
  | false => rw [if_neg (by simp)]; rfl
  | true =>
    rw [Bool.not_true, br_false, TxOk_law, bnd]
    cases hx : txOk x with
    | false => rw [if_neg (by simp)]; rfl
    | true =>
      rw [Bool.not_true, br_false, if_pos ⟨rfl, rfl⟩]
      obtain ⟨e1, e2, e3, e4⟩ := ledOk_spec hl
      obtain ⟨q1, q2, q3, q4⟩ := txOk_spec hx
      have o0 : ∀ (y : Int) (n : Nat), n = 4 → 0 ≤ y → y ≤ 3 → okI y (n : Int) = true := fun y n h h1 h2 => by
        obtain ⟨u, rfl⟩ : ∃ u : Nat, y = u := ⟨y.toNat, by omega⟩
        exact okI_nat (by omega)
      have o1 := o0 x.1 _ e1 q1.1 q1.2
      have o2 := o0 x.1 _ e2 q1.1 q1.2
      have o3 : ∀ w, okI x.2.1 ((l.1.set x.1.toNat w).length : Int) = true := fun w => o0 x.2.1 _ (by rw [List.length_set]; exact e1) q2.1 q2.2
      simp only [o1, o2, o3, ck_true]
      have g1 : 0 ≤ at_ l.1 x.1 0 ∧ at_ l.1 x.1 0 ≤ 400 := e3 _ (getD_mem (a := l.1) (k := x.1.toNat) (by omega) 0)
      have g2 : 0 ≤ at_ l.2 x.1 0 ∧ at_ l.2 x.1 0 ≤ 100 := e4 _ (getD_mem (a := l.2) (k := x.1.toNat) (by omega) 0)
      by_cases c1 : x.2.2.2 < at_ l.2 x.1 0
      · rw [dT _ c1, br_true, if_pos c1]
      · rw [dF _ c1, br_false, if_neg c1]
        by_cases c2 : x.2.2.2 > at_ l.2 x.1 0
        · rw [dT _ c2, br_true, if_pos c2]
        · rw [dF _ c2, br_false, if_neg c2, w64_in (n := x.2.2.2 + 1) (by omega) (by omega)]
          by_cases c3 : x.2.2.1 > at_ l.1 x.1 0
          · rw [dT _ c3, br_true, if_pos c3]
          · have g3 : 0 ≤ at_ (l.1.set x.1.toNat (at_ l.1 x.1 0 - x.2.2.1)) x.2.1 0 ∧ at_ (l.1.set x.1.toNat (at_ l.1 x.1 0 - x.2.2.1)) x.2.1 0 ≤ 400 := set_mem (k := x.1.toNat) (v := at_ l.1 x.1 0 - x.2.2.1) e3 ⟨by omega, by omega⟩ _ (getD_mem (a := l.1.set x.1.toNat (at_ l.1 x.1 0 - x.2.2.1)) (k := x.2.1.toNat) (by rw [List.length_set]; omega) 0)
            rw [dF _ c3, br_false, if_neg c3, w64_in (n := at_ l.1 x.1 0 - x.2.2.1) (by omega) (by omega), w64_in (n := at_ (l.1.set x.1.toNat (at_ l.1 x.1 0 - x.2.2.1)) x.2.1 0 + x.2.2.1) (by omega) (by omega), LedgerOk_law, bnd]
            cases ledOk ((l.1.set x.1.toNat (at_ l.1 x.1 0 - x.2.2.1)).set x.2.1.toNat (at_ (l.1.set x.1.toNat (at_ l.1 x.1 0 - x.2.2.1)) x.2.1 0 + x.2.2.1), l.2.set x.1.toNat (x.2.2.2 + 1)) with
            | false => rw [if_neg (by simp), Bool.not_false, br_true, bnd]
            | true => rw [if_pos rfl]; rfl
theorem Pay_law2 {l : LedD} (h1 : l.1.length ≤ 1048576) (h2 : l.2.length ≤ 1048576) (x : TxD) : impl_Pay F0 l x = some ((payD l x).1, (payD l x).2, ()) := by
  rw [impl_Pay_eq, copyLedger_law h1 h2, bnd, LedgerOk_law2 h1 h2, bnd]
  unfold payD
  cases hl : ledOk l with
  | false => rw [if_neg (by simp)]; rfl
  | true =>
    rw [Bool.not_true, br_false, TxOk_law2, bnd]
    cases hx : txOk x with
    | false => rw [if_neg (by simp)]; rfl
    | true =>
      rw [Bool.not_true, br_false, if_pos ⟨rfl, rfl⟩]
      obtain ⟨e1, e2, e3, e4⟩ := ledOk_spec hl
      obtain ⟨q1, q2, q3, q4⟩ := txOk_spec hx
      have o0 : ∀ (y : Int) (n : Nat), n = 4 → 0 ≤ y → y ≤ 3 → okI y (n : Int) = true := fun y n h h1 h2 => by
        obtain ⟨u, rfl⟩ : ∃ u : Nat, y = u := ⟨y.toNat, by omega⟩
        exact okI_nat (by omega)
      have o1 := o0 x.1 _ e1 q1.1 q1.2
      have o2 := o0 x.1 _ e2 q1.1 q1.2
      have o3 : ∀ w, okI x.2.1 ((l.1.set x.1.toNat w).length : Int) = true := fun w => o0 x.2.1 _ (by rw [List.length_set]; exact e1) q2.1 q2.2
      simp only [o1, o2, o3, ck_true]
      have g1 : 0 ≤ at_ l.1 x.1 0 ∧ at_ l.1 x.1 0 ≤ 400 := e3 _ (getD_mem (a := l.1) (k := x.1.toNat) (by omega) 0)
      have g2 : 0 ≤ at_ l.2 x.1 0 ∧ at_ l.2 x.1 0 ≤ 100 := e4 _ (getD_mem (a := l.2) (k := x.1.toNat) (by omega) 0)
      by_cases c1 : x.2.2.2 < at_ l.2 x.1 0
      · rw [dT _ c1, br_true, if_pos c1]
      · rw [dF _ c1, br_false, if_neg c1]
        by_cases c2 : x.2.2.2 > at_ l.2 x.1 0
        · rw [dT _ c2, br_true, if_pos c2]
        · have hnn : at_ l.2 x.1 0 = x.2.2.2 := by omega
          rw [dF _ c2, br_false, if_neg c2, hnn, w64_in (n := x.2.2.2 + 1) (by omega) (by omega)]
          by_cases c3 : x.2.2.1 > at_ l.1 x.1 0
          · rw [dT _ c3, br_true, if_pos c3]
          · have g3 : 0 ≤ at_ (l.1.set x.1.toNat (at_ l.1 x.1 0 - x.2.2.1)) x.2.1 0 ∧ at_ (l.1.set x.1.toNat (at_ l.1 x.1 0 - x.2.2.1)) x.2.1 0 ≤ 400 := set_mem (k := x.1.toNat) (v := at_ l.1 x.1 0 - x.2.2.1) e3 ⟨by omega, by omega⟩ _ (getD_mem (a := l.1.set x.1.toNat (at_ l.1 x.1 0 - x.2.2.1)) (k := x.2.1.toNat) (by rw [List.length_set]; omega) 0)
            rw [dF _ c3, br_false, if_neg c3, w64_in (n := at_ l.1 x.1 0 - x.2.2.1) (by omega) (by omega), w64_in (n := at_ (l.1.set x.1.toNat (at_ l.1 x.1 0 - x.2.2.1)) x.2.1 0 + x.2.2.1) (by omega) (by omega), LedgerOk_law2 (by simp only [List.length_set]; omega) (by simp only [List.length_set]; omega), bnd]
            cases ledOk ((l.1.set x.1.toNat (at_ l.1 x.1 0 - x.2.2.1)).set x.2.1.toNat (at_ (l.1.set x.1.toNat (at_ l.1 x.1 0 - x.2.2.1)) x.2.1 0 + x.2.2.1), l.2.set x.1.toNat (x.2.2.2 + 1)) with
            | false => rw [if_neg (by simp), Bool.not_false, br_true, bnd]
            | true => rw [if_pos rfl]; rfl
theorem payD_len (l : LedD) (x : TxD) : (payD l x).1.1.length = l.1.length ∧ (payD l x).1.2.length = l.2.length := by
  unfold payD
  split
  · split
    · exact ⟨rfl, rfl⟩
    · split
      · exact ⟨rfl, rfl⟩
      · split
        · exact ⟨rfl, by simp⟩
        · split
          · exact ⟨by simp, by simp⟩
          · exact ⟨rfl, rfl⟩
  · exact ⟨rfl, rfl⟩
end Go.Am.Tryd
