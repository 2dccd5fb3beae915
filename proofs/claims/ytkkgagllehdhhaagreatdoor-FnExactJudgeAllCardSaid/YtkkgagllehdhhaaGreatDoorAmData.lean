/- Plain laws: how large data is; what is counted off, copied, compared. No condition. -/
import Derived.Test.YtkkgagllehdhhaaGreatDoorAmMark
set_option linter.unusedVariables false
set_option linter.unusedSimpArgs false
namespace Go.Am
/-- All texts and rows in it are of length at most n. -/
def Lim (n : Nat) : (t : Ty) → t.D → Prop
  | .int _, _ | .bool, _ | .unit, _ => True
  | .str, s => s.size ≤ n
  | .pair a b, x => Lim n a x.1 ∧ Lim n b x.2
  | .sl _ t, xs => xs.length ≤ n ∧ ∀ x ∈ xs, Lim n t x
def noStr : Ty → Bool
  | .int _ | .bool | .unit => true
  | .pair a b => noStr a && noStr b
  | _ => false
theorem lim_flat (n : Nat) : ∀ {t : Ty} {x : t.D}, noStr t = true → Lim n t x
  | .int _, _, _ => trivial
  | .bool, _, _ => trivial
  | .unit, _, _ => trivial
  | .str, _, h => by cases h
  | .pair _ _, _, h => by
    simp only [noStr, Bool.and_eq_true] at h
    exact ⟨lim_flat n h.1, lim_flat n h.2⟩
  | .sl _ _, _, h => by cases h
theorem sz_list {α : Type} (X : Nat → Int → Int → Option (Int × Unit)) (f : α → Int → Option (Int × Unit)) (P : α → Prop) (a : List α) (hX : ∀ x ∈ a, SzOk f P x)
    (hs : ∀ n k left (h : k < a.length), X (n + 1) (k : Int) left = (f a[k] left).bind fun r => br (decide (r.1 < 0)) (some ((-1), ())) (X n ((k + 1 : Nat) : Int) r.1))
    (he : ∀ n left, X (n + 1) (a.length : Int) left = some (left, ())) : ∀ (n k : Nat) (left : Int), k ≤ a.length → a.length - k < n → 0 ≤ left → left ≤ 1048576 →
      ∃ r, X n (k : Int) left = some (r, ()) ∧ r ≤ left ∧ (0 ≤ r → ∀ x ∈ a.drop k, P x)
  | 0, _, _, _, h, _, _ => absurd h (Nat.not_lt_zero _)
  | n + 1, k, left, hk, hn, h0, h1 => by
    rcases Nat.lt_or_ge k a.length with hlt | hge
    · rw [hs n k left hlt]
      obtain ⟨r, h2, h3, h4⟩ := hX a[k] (List.getElem_mem hlt) left h0 h1
      rw [h2, bnd]
      by_cases hr : r < 0
      · exact ⟨-1, by rw [decide_eq_true (show (r, ()).1 < 0 from hr), br_true], by omega, fun h => by omega⟩
      · rw [decide_eq_false (show ¬ (r, ()).1 < 0 from hr), br_false]
        obtain ⟨r', h5, h6, h7⟩ := sz_list X f P a hX hs he n (k + 1) r hlt (by omega) (by omega) (by omega)
        refine ⟨r', h5, by omega, fun h x hx => ?_⟩
        rw [List.drop_eq_getElem_cons hlt] at hx
        rcases List.mem_cons.1 hx with rfl | hx
        · exact h4 (by omega)
        · exact h7 h x hx
    · obtain rfl : k = a.length := by omega
      exact ⟨left, he n left, Int.le_refl _, fun _ x hx => by rw [List.drop_length] at hx; cases hx⟩
theorem sz_rows {α : Type} {X : Nat → Int → Int → Option (Int × Unit)} {f : α → Int → Option (Int × Unit)} {P : α → Prop} {a : List α} (h63 : a.length ≤ 9223372036854775807) (hX : ∀ x ∈ a, SzOk f P x)
    (hs : ∀ n k left (h : k < a.length), X (n + 1) (k : Int) left = (f a[k] left).bind fun r => br (decide (r.1 < 0)) (some ((-1), ())) (X n ((k + 1 : Nat) : Int) r.1))
    (he : ∀ n left, X (n + 1) (a.length : Int) left = some (left, ())) {left : Int} (h0 : 0 ≤ left) (h1 : left ≤ 1048576) :
    ∃ r, br (decide ((w64 (left - (a.length : Int))) < 0)) (some ((-1), ())) (X F0.n 0 (w64 (left - (a.length : Int)))) = some (r, ()) ∧ r ≤ left ∧ (0 ≤ r → a.length ≤ 1048576 ∧ ∀ x ∈ a, P x) := by
  refine sz_len h63 h0 h1 fun k0 k1 k2 => ?_
  obtain ⟨r, h2, h3, h4⟩ := sz_list X f P a hX hs he F0.n 0 _ (Nat.zero_le _) (by rw [n_eq]; omega) k0 (by omega)
  exact ⟨r, h2, h3, fun h => ⟨k2, fun x hx => h4 h x (by rw [List.drop_zero]; exact hx)⟩⟩
theorem at_isD {α : Type} {a : List α} {k : Nat} (h : k < a.length) (d : α) : at_ a (k : Int) d = a[k] := by
  rw [at_nat]
  simp [List.getD, h]
/-- A loop that copies element by element, through a function. -/
theorem copy_by {α β : Type} (X : Nat → Int → List α → Option β) (a : List α) (e : α) (R : Option β)
    (hs : ∀ n k xs (h : k < a.length), xs.length = a.length → X (n + 1) (k : Int) xs = X n ((k + 1 : Nat) : Int) (xs.set k a[k]))
    (he : ∀ n, X (n + 1) (a.length : Int) a = R) (n : Nat) (hn : a.length < n) : X n 0 (List.replicate (a.length : Int).toNat e) = R := by
  cases a with
  | nil => exact copy_to X [] e e R (fun n k xs hk => absurd hk (Nat.not_lt_zero _)) he n hn
  | cons x l => exact copy_to X (x :: l) x e R (fun n k xs hk hl => by
      rw [hs n k xs hk hl]
      have : (x :: l).getD k x = (x :: l)[k] := by simp only [List.getD, List.getElem?_eq_getElem hk, Option.getD_some]
      rw [this]) he n hn
end Go.Am
