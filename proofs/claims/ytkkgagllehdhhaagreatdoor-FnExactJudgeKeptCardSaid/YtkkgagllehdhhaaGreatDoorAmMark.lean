/- Plain laws of marking: numbers written one behind the other into rows, and read again. No condition. -/
import Derived.Test.YtkkgagllehdhhaaGreatDoorAmLoop
set_option linter.unusedVariables false
set_option linter.unusedSimpArgs false
namespace Go.Am
section
variable {α β : Type} (e : Int → α → α) (c : α → Nat)
/-- A row marked from k on. -/
def mk : Int → List α → List α
  | _, [] => []
  | k, x :: l => e k x :: mk (k + c x) l
def cnt : List α → Nat
  | [] => 0
  | x :: l => c x + cnt l
theorem mk_len : ∀ (k : Int) (l : List α), (mk e c k l).length = l.length
  | _, [] => rfl
  | k, x :: l => by simp [mk, mk_len _ l]
theorem cnt_take_succ {l : List α} {i : Nat} (h : i < l.length) : cnt c (l.take (i + 1)) = cnt c (l.take i) + c l[i] := by
  induction l generalizing i with
  | nil => simp at h
  | cons x l ih =>
    cases i with
    | zero => simp [cnt]
    | succ i =>
      have := ih (i := i) (by simpa using h)
      simp only [List.take_succ_cons, cnt, List.getElem_cons_succ]
      omega
theorem cnt_take_le (l : List α) (i : Nat) : cnt c (l.take i) ≤ cnt c l := by
  induction l generalizing i with
  | nil => simp [cnt]
  | cons x l ih =>
    cases i with
    | zero => simp [cnt]
    | succ i => simp only [List.take_succ_cons, cnt]; have := ih i; omega
theorem mk_set (l : List α) (i : Nat) (k : Int) (h : i < l.length) : (mk e c k (l.take i) ++ l.drop i).set i (e (k + cnt c (l.take i)) l[i]) = mk e c k (l.take (i + 1)) ++ l.drop (i + 1) := by
  induction l generalizing i k with
  | nil => simp at h
  | cons x l ih =>
    cases i with
    | zero => simp [mk, cnt]
    | succ i =>
      have := ih i (k + c x) (by simpa using h)
      simp only [List.take_succ_cons, mk, List.cons_append, List.drop_succ_cons, List.set_cons_succ, cnt, List.getElem_cons_succ]
      rw [show k + (((c x + cnt c (l.take i)) : Nat) : Int) = k + c x + cnt c (l.take i) by omega, this]
theorem mk_get (l : List α) (i : Nat) (k : Int) (h : i < l.length) : (mk e c k (l.take i) ++ l.drop i)[i]? = some l[i] := by
  rw [List.getElem?_append_right (by rw [mk_len, List.length_take]; omega), mk_len, List.length_take, List.getElem?_drop, show i + (i - min i l.length) = i by omega, List.getElem?_eq_getElem h]
theorem mk_at (l : List α) (i : Nat) (k : Int) (h : i < l.length) : (mk e c k l)[i]? = some (e (k + cnt c (l.take i)) l[i]) := by
  induction l generalizing i k with
  | nil => simp at h
  | cons x l ih =>
    cases i with
    | zero => simp [mk, cnt]
    | succ i =>
      have := ih i (k + c x) (by simpa using h)
      simp only [mk, List.getElem?_cons_succ, this, List.take_succ_cons, cnt, List.getElem_cons_succ]
      rw [show k + (((c x + cnt c (l.take i)) : Nat) : Int) = k + c x + cnt c (l.take i) by omega]
/-- A loop that marks. -/
theorem mark_to (X : Nat → Int → Int → List α → Option β) (a : List α) (k0 : Int) (R : Option β)
    (hs : ∀ n i xs (h : i < a.length), xs.length = a.length → xs[i]? = some a[i] → X (n + 1) (i : Int) (k0 + cnt c (a.take i)) xs = X n ((i + 1 : Nat) : Int) (k0 + cnt c (a.take i) + c a[i]) (xs.set i (e (k0 + cnt c (a.take i)) a[i])))
    (he : ∀ n, X (n + 1) (a.length : Int) (k0 + cnt c a) (mk e c k0 a) = R) (n : Nat) (hn : a.length < n) : X n 0 k0 a = R := by
  have := loop_to (fun n i (z : Int × List α) => X n i z.1 z.2) a.length (fun i z => z.1 = k0 + cnt c (a.take i) ∧ z.2 = mk e c k0 (a.take i) ++ a.drop i) R (fun n i z hi h => .inr ⟨(k0 + cnt c (a.take i) + c a[i], z.2.set i (e (k0 + cnt c (a.take i)) a[i])), ?_, ?_, ?_⟩) (fun n z h => ?_) n 0 (k0, a) (Nat.zero_le _) ⟨by simp [cnt], by simp [mk]⟩ (by omega)
  · exact this
  · obtain ⟨h1, h2⟩ := h
    rw [h1]
    exact hs n i z.2 hi (by rw [h2, List.length_append, mk_len, List.length_take, List.length_drop]; omega) (by rw [h2]; exact mk_get e c a i k0 hi)
  · rw [cnt_take_succ c hi]
    simp only
    omega
  · obtain ⟨h1, h2⟩ := h
    simp only
    rw [h2]
    exact mk_set e c a i k0 hi
  · obtain ⟨h1, h2⟩ := h
    rw [List.take_length] at h1 h2
    rw [List.drop_length, List.append_nil] at h2
    rw [h1, h2]
    exact he n
/-- A loop that reads what was marked. -/
theorem held_to (Y : Nat → Int → Int → Option β) (a : List α) (k0 : Int) (R : Option β)
    (hs : ∀ n i (h : i < a.length), (mk e c k0 a)[i]? = some (e (k0 + cnt c (a.take i)) a[i]) → Y (n + 1) (i : Int) (k0 + cnt c (a.take i)) = Y n ((i + 1 : Nat) : Int) (k0 + cnt c (a.take i) + c a[i]))
    (he : ∀ n, Y (n + 1) (a.length : Int) (k0 + cnt c a) = R) (n : Nat) (hn : a.length < n) : Y n 0 k0 = R := by
  have := loop_to (fun n i (k : Int) => Y n i k) a.length (fun i k => k = k0 + cnt c (a.take i)) R (fun n i k hi h => .inr ⟨k0 + cnt c (a.take i) + c a[i], ?_, ?_⟩) (fun n k h => ?_) n 0 k0 (Nat.zero_le _) (by simp [cnt]) (by omega)
  · exact this
  · subst h
    exact hs n i hi (mk_at e c a i k0 hi)
  · rw [cnt_take_succ c hi]
    omega
  · subst h
    rw [List.take_length]
    exact he n
theorem cnt_const {c0 : Nat} (hc : ∀ x, c x = c0) (l : List α) : cnt c l = c0 * l.length := by
  induction l with
  | nil => rfl
  | cons x l ih => simp [cnt, ih, hc, Nat.mul_add, Nat.add_comm]
end
theorem at_get {α : Type} {xs : List α} {i : Nat} {x : α} (h : xs[i]? = some x) (d : α) : at_ xs (i : Int) d = x := by
  rw [at_nat]
  simp [List.getD, h]
theorem get_lt {α : Type} {xs : List α} {i : Nat} {x : α} (h : xs[i]? = some x) : i < xs.length := (List.getElem?_eq_some_iff.1 h).1
/-- A loop that compares element by element, where both are the same. -/
theorem same_to {β : Type} (X : Nat → Int → Option β) (L : Nat) (R : Option β) (hs : ∀ n k, k < L → X (n + 1) (k : Int) = X n ((k + 1 : Nat) : Int)) (he : ∀ n, X (n + 1) (L : Int) = R) (n : Nat) (hn : L < n) : X n 0 = R :=
  loop_to (fun n i (_ : Unit) => X n i) L (fun _ _ => True) R (fun n k z hk _ => .inr ⟨(), hs n k hk, trivial⟩) (fun n _ _ => he n) n 0 () (Nat.zero_le _) trivial (by omega)
/-- A loop that builds a row, element by element. -/
theorem push_to {γ δ β : Type} (X : Nat → Int → List δ → Option β) (a : List γ) (g : γ → δ) (R : Option β)
    (hs : ∀ n k (h : k < a.length) xs, xs.length = k → X (n + 1) (k : Int) xs = X n ((k + 1 : Nat) : Int) (xs ++ [g a[k]])) (he : ∀ n, X (n + 1) (a.length : Int) (a.map g) = R) (n : Nat) (hn : a.length < n) : X n 0 [] = R := by
  refine loop_to X a.length (fun k xs => xs = (a.take k).map g) R (fun n k xs hk h => .inr ⟨xs ++ [g a[k]], hs n k hk xs (by rw [h, List.length_map, List.length_take]; omega), ?_⟩) (fun n xs h => ?_) n 0 [] (Nat.zero_le _) rfl (by omega)
  · rw [h, List.take_add_one, List.getElem?_eq_getElem hk, List.map_append]
    rfl
  · rw [h, List.take_length]
    exact he n
end Go.Am
