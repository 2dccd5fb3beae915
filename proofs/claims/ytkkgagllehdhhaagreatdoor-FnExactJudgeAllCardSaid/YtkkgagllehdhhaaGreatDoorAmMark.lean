/- Plain laws of marking: numbers written one behind the other into rows, and read again. No condition. -/
import Derived.Test.YtkkgagllehdhhaaGreatDoorAmLoop
set_option linter.unusedVariables false
set_option linter.unusedSimpArgs false
namespace Go.Am
section
variable {α β : Type} (e : Int → α → α) (c : α → Nat)
/-- A row marked from k on. -/
def mk : Int → List α → List α
  | _, [] => []
  | k, x :: l => e k x :: mk (k + c x) l
end
/-- A loop that compares element by element, where both are the same. -/
theorem same_to {β : Type} (X : Nat → Int → Option β) (L : Nat) (R : Option β) (hs : ∀ n k, k < L → X (n + 1) (k : Int) = X n ((k + 1 : Nat) : Int)) (he : ∀ n, X (n + 1) (L : Int) = R) (n : Nat) (hn : L < n) : X n 0 = R :=
  loop_to (fun n i (_ : Unit) => X n i) L (fun _ _ => True) R (fun n k z hk _ => .inr ⟨(), hs n k hk, trivial⟩) (fun n _ _ => he n) n 0 () (Nat.zero_le _) trivial (by omega)
end Go.Am
