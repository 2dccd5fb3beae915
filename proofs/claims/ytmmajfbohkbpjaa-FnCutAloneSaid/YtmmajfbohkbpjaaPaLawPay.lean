/- Plain laws: payments. No condition. -/
import Derived.Test.YtmmajfbohkbpjaaPaLawSteps2
set_option linter.unusedVariables false
set_option linter.unusedSimpArgs false
namespace Go.Am.Try
open Go.Am
abbrev LedD := List Int × List Int
def ledOk (l : LedD) : Bool := decide (l.1.length = 4) && (decide (l.2.length = 4) && (l.1.all (fun n => inB n 0 400) && l.2.all (fun n => inB n 0 100)))
def payD (l : LedD) (x : TxD) : LedD × Int :=
  if ledOk l = true ∧ txOk x = true then
    if x.2.2.2 < at_ l.2 x.1 0 then (l, 2)
    else if x.2.2.2 > at_ l.2 x.1 0 then (l, 3)
    else if x.2.2.1 > at_ l.1 x.1 0 then ((l.1, l.2.set x.1.toNat (x.2.2.2 + 1)), 4)
    else if ledOk ((l.1.set x.1.toNat (at_ l.1 x.1 0 - x.2.2.1)).set x.2.1.toNat (at_ (l.1.set x.1.toNat (at_ l.1 x.1 0 - x.2.2.1)) x.2.1 0 + x.2.2.1), l.2.set x.1.toNat (x.2.2.2 + 1)) = true
      then (((l.1.set x.1.toNat (at_ l.1 x.1 0 - x.2.2.1)).set x.2.1.toNat (at_ (l.1.set x.1.toNat (at_ l.1 x.1 0 - x.2.2.1)) x.2.1 0 + x.2.2.1), l.2.set x.1.toNat (x.2.2.2 + 1)), 0)
      else (l, 1)
  else (l, 1)
theorem ledOk_spec {l : LedD} (h : ledOk l = true) : l.1.length = 4 ∧ l.2.length = 4 ∧ (∀ x ∈ l.1, 0 ≤ x ∧ x ≤ 400) ∧ ∀ x ∈ l.2, 0 ≤ x ∧ x ≤ 100 := by
  simp only [ledOk, Bool.and_eq_true, decide_eq_true_eq, List.all_eq_true, inB] at h
  exact ⟨h.1, h.2.1, fun x hx => ⟨(h.2.2.1 x hx).1, (h.2.2.1 x hx).2⟩, fun x hx => ⟨(h.2.2.2 x hx).1, (h.2.2.2 x hx).2⟩⟩
end Go.Am.Try
