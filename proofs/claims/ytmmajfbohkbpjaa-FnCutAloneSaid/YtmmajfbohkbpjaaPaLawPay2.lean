/- Plain laws: a payment. No condition. -/
import Derived.Test.YtmmajfbohkbpjaaPaLawPay
set_option linter.unusedVariables false
set_option linter.unusedSimpArgs false
namespace Go.Am.Try
open Go.Am
theorem dT {p : Prop} (i : Decidable p) (h : p) : @decide p i = true := decide_eq_true h
theorem dF {p : Prop} (i : Decidable p) (h : ¬ p) : @decide p i = false := decide_eq_false h
theorem set_mem {a : List Int} {k : Nat} {v : Int} {lo hi : Int} (ha : ∀ x ∈ a, lo ≤ x ∧ x ≤ hi) (hv : lo ≤ v ∧ v ≤ hi) : ∀ x ∈ a.set k v, lo ≤ x ∧ x ≤ hi := fun x hx => by
  rcases List.mem_or_eq_of_mem_set hx with h | h
  · exact ha x h
  · rw [h]; exact hv
theorem payD_len (l : LedD) (x : TxD) : (payD l x).1.1.length = l.1.length ∧ (payD l x).1.2.length = l.2.length := by
  unfold payD
  split
  · split
    · exact ⟨rfl, rfl⟩
    · split
      · exact ⟨rfl, rfl⟩
      · split
        · exact ⟨rfl, by simp⟩
        · split
          · exact ⟨by simp, by simp⟩
          · exact ⟨rfl, rfl⟩
  · exact ⟨rfl, rfl⟩
end Go.Am.Try
