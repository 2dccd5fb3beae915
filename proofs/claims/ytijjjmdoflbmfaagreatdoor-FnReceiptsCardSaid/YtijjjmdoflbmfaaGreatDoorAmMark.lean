/- Plain laws of marking: numbers written one behind the other into rows, and read again. No condition. -/
import Derived.Test.YtijjjmdoflbmfaaGreatDoorAmLoop
set_option linter.unusedVariables false
set_option linter.unusedSimpArgs false
namespace Go.Am
section
variable {α β : Type} (e : Int → α → α) (c : α → Nat)
/-- A row marked from k on. -/
def mk : Int → List α → List α
  | _, [] => []
  | k, x :: l => e k x :: mk (k + c x) l
end
/-- A loop that compares element by element, where both are the same. -/
theorem same_to {β : Type} (X : Nat → Int → Option β) (L : Nat) (R : Option β) (hs : ∀ n k, k < L → X (n + 1) (k : Int) = X n ((k + 1 : Nat) : Int)) (he : ∀ n, X (n + 1) (L : Int) = R) (n : Nat) (hn : L < n) : X n 0 = R :=
  loop_to (fun n i (_ : Unit) => X n i) L (fun _ _ => True) R (fun n k z hk _ => .inr ⟨(), hs n k hk, trivial⟩) (fun n _ _ => he n) n 0 () (Nat.zero_le _) trivial (by omega)
/-- A loop that builds a row, element by element. -/
theorem push_to {γ δ β : Type} (X : Nat → Int → List δ → Option β) (a : List γ) (g : γ → δ) (R : Option β)
    (hs : ∀ n k (h : k < a.length) xs, xs.length = k → X (n + 1) (k : Int) xs = X n ((k + 1 : Nat) : Int) (xs ++ [g a[k]])) (he : ∀ n, X (n + 1) (a.length : Int) (a.map g) = R) (n : Nat) (hn : a.length < n) : X n 0 [] = R := by
  refine loop_to X a.length (fun k xs => xs = (a.take k).map g) R (fun n k xs hk h => .inr ⟨xs ++ [g a[k]], hs n k hk xs (by rw [h, List.length_map, List.length_take]; omega), ?_⟩) (fun n xs h => ?_) n 0 [] (Nat.zero_le _) rfl (by omega)
  · rw [h, List.take_add_one, List.getElem?_eq_getElem hk, List.map_append]
    rfl
  · rw [h, List.take_length]
    exact he n
end Go.Am
