/- Plain laws: chains out of texts. No condition. -/
import Derived.Test.YtmmajfbohkbpjaaPcLawSteps
set_option linter.unusedVariables false
set_option linter.unusedSimpArgs false
namespace Go.Am.Try
open Go.Am
abbrev StepD := Int × List TxD
def stepF (last : Int) (p : List UInt8) : Option (Int × StepD) :=
  if 124 ∈ p ∧ (numL (cutI p 124).1).2 = true ∧ (txsOf (cutI p 124).2).2 = true ∧ last < (numL (cutI p 124).1).1 ∧ (numL (cutI p 124).1).1 ≤ 60 ∧ (txsOf (cutI p 124).2).1.length ≤ 2
  then some ((numL (cutI p 124).1).1, ((numL (cutI p 124).1).1, (txsOf (cutI p 124).2).1)) else none
def stepsOf (l : List UInt8) : List StepD × Bool := if l = [] then ([], true) else match parts 47 l with
  | [] => ([], false)
  | p0 :: ps => if ¬ p0 = [] ∨ 30 < ps.length then ([], false) else match allF stepF 0 ps with
    | none => ([], false)
    | some r => (r, true)
def StepOk (s : StepD) : Prop := 0 ≤ s.1 ∧ s.1 ≤ 60 ∧ s.2.length ≤ 2 ∧ ∀ x ∈ s.2, txOk x = true
theorem stepF_ok {last : Int} {p : List UInt8} {s' : Int} {b : StepD} (h : stepF last p = some (s', b)) : StepOk b ∧ s' = b.1 := by
  unfold stepF at h
  split at h
  · rename_i hc
    cases h
    exact ⟨⟨(numL_i64 _).1, hc.2.2.2.2.1, hc.2.2.2.2.2, txsOf_ok _⟩, rfl⟩
  · cases h
theorem stepsOf_ok (l : List UInt8) : ∀ s ∈ (stepsOf l).1, StepOk s := by
  unfold stepsOf
  split
  · simp
  · split
    · simp
    · split
      · simp
      · split
        · simp
        · rename_i hr
          exact allF_all (Q := StepOk) (fun s p s' b h => (stepF_ok h).1) hr
theorem stepsOf_len (l : List UInt8) : (stepsOf l).1.length ≤ 30 := by
  unfold stepsOf
  split
  · simp
  · split
    · simp
    · split
      · simp
      · split
        · simp
        · rename_i hr
          have := allF_len hr
          simp only
          omega
theorem br6 {α : Type} (a b c d e f : Bool) (x y : α) : br (!a) x (br (!b) x (br (!c) x (br d x (br e x (br f x y))))) = if a = true ∧ b = true ∧ c = true ∧ d = false ∧ e = false ∧ f = false then y else x := by
  cases a <;> cases b <;> cases c <;> cases d <;> cases e <;> cases f <;> rfl
theorem br5 {α : Type} (a b c d f : Bool) (x y : α) : br (!a) x (br (!b) x (br (!c) x (br (!d) x (br f x y)))) = if a = true ∧ b = true ∧ c = true ∧ d = true ∧ f = false then y else x := by
  cases a <;> cases b <;> cases c <;> cases d <;> cases f <;> rfl
end Go.Am.Try
