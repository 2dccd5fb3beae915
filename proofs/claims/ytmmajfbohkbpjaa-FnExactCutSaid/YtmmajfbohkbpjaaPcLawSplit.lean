/- Plain laws: texts parted at a byte. No condition. -/
import Derived.Test.YtmmajfbohkbpjaaPcLawTx2
import Derived.Lib.SplitLaws
set_option linter.unusedVariables false
set_option linter.unusedSimpArgs false
namespace Go.Am.Try
open Go.Am
def parts (c : UInt8) : List UInt8 → List (List UInt8)
  | [] => [[]]
  | x :: l => if x = c then [] :: parts c l else match parts c l with
    | p :: ps => (x :: p) :: ps
    | [] => [[x]]
theorem parts_ne (c : UInt8) (l : List UInt8) : parts c l ≠ [] := by
  cases l with
  | nil => simp [parts]
  | cons x l =>
    unfold parts
    split
    · simp
    · split <;> simp
theorem parts_no {c : UInt8} {a : List UInt8} (h : c ∉ a) : parts c a = [a] := by
  induction a with
  | nil => rfl
  | cons x a ih =>
    have hx : ¬ x = c := by rintro rfl; simp at h
    unfold parts
    rw [if_neg hx, ih fun h' => h (List.mem_cons_of_mem _ h')]
theorem parts_at {c : UInt8} {a b : List UInt8} (h : c ∉ a) : parts c (a ++ c :: b) = a :: parts c b := by
  induction a with
  | nil =>
    rw [List.nil_append]
    conv => lhs; unfold parts
    rw [if_pos rfl]
  | cons x a ih =>
    have hx : ¬ x = c := by rintro rfl; simp at h
    rw [List.cons_append]
    conv => lhs; unfold parts
    rw [if_neg hx, ih fun h' => h (List.mem_cons_of_mem _ h')]
theorem parts_len (c : UInt8) (l : List UInt8) : (parts c l).length ≤ l.length + 1 := by
  induction l with
  | nil => simp [parts]
  | cons x l ih =>
    unfold parts
    split
    · simp only [List.length_cons]
      omega
    · split
      · rename_i p ps h
        rw [h] at ih
        simp only [List.length_cons] at ih ⊢
        omega
      · simp
theorem parts_mem {c : UInt8} : ∀ {l p : List UInt8}, p ∈ parts c l → p.length ≤ l.length
  | [], p, h => by
    simp only [parts, List.mem_singleton] at h
    rw [h]
    simp
  | x :: l, p, h => by
    unfold parts at h
    split at h
    · rcases List.mem_cons.1 h with rfl | h
      · simp
      · have := parts_mem h
        simp only [List.length_cons]
        omega
    · split at h
      · rename_i q qs hq
        rcases List.mem_cons.1 h with rfl | h
        · have := parts_mem (c := c) (l := l) (p := q) (by rw [hq]; simp)
          simp only [List.length_cons]
          omega
        · have := parts_mem (c := c) (l := l) (p := p) (by rw [hq]; simp [h])
          simp only [List.length_cons]
          omega
      · rw [List.mem_singleton] at h
        rw [h]
        simp
theorem extract_mid (l : List UInt8) (a b : Nat) : (tx l).extract a b = tx ((l.drop a).take (b - a)) := by
  rw [tx_of ((tx l).extract a b), Lib.extract_data, tx_list]
end Go.Am.Try
