/- Plain laws of loops that copy, compare. No condition. -/
import Derived.Test.YtmmajfbohkbpjaaAmRow
import Derived.IntWalk
set_option linter.unusedVariables false
set_option linter.unusedSimpArgs false
namespace Go.Am

theorem w64_eq {n : Int} (h1 : -9223372036854775808 ≤ n) (h2 : n ≤ 9223372036854775807) : w64 n = n := IntWalk.i64_in n ⟨h1, h2⟩

theorem take_succ_set {α : Type} {a xs : List α} {k : Nat} (hl : xs.length = a.length) (hk : k < a.length) (ht : xs.take k = a.take k) {d : α} : (xs.set k (a.getD k d)).take (k + 1) = a.take (k + 1) := by
  apply List.ext_getElem?
  intro i
  have hg : a.getD k d = a[k] := by simp [List.getD, hk]
  rw [hg]
  rcases Nat.lt_trichotomy i k with h | h | h
  · have := congrArg (fun l => l[i]?) ht
    simp only [List.getElem?_take, h, if_true] at this
    simp only [List.getElem?_take, Nat.lt_succ_of_lt h, if_true, List.getElem?_set, Nat.ne_of_gt h, if_false]
    exact this
  · subst h
    simp [List.getElem?_take, List.getElem?_set, hl, hk]
  · have h1 : ¬ i < k + 1 := by omega
    simp [List.getElem?_take, h1]

theorem copy_loop {α : Type} (X : Nat → List α → Int → List α → Option (List α)) (d : α) (f : α → Option (α × Unit))
    (hstep : ∀ n a i xs, X (n + 1) a i xs = br (decide (i < (a.length : Int))) (ck (decide (0 ≤ i) && decide (i < (a.length : Int))) ((f (a.getD i.toNat d)).bind fun r => ck (decide (0 ≤ i) && decide (i < (xs.length : Int))) (X n a (w64 (i + 1)) (xs.set i.toNat r.1)))) (some xs))
    (a : List α) (hf : ∀ x ∈ a, f x = some (x, ())) (hlen : a.length ≤ 9223372036854775807) :
    ∀ (n k : Nat) (xs : List α), xs.length = a.length → k ≤ a.length → xs.take k = a.take k → a.length - k < n → X n a (k : Int) xs = some a
  | 0, k, xs, _, _, _, h => by omega
  | n + 1, k, xs, hl, hk, ht, h => by
    rw [hstep]
    by_cases hlt : k < a.length
    · have h1 : decide ((k : Int) < (a.length : Int)) = true := by simp; omega
      have h2 : decide (0 ≤ (k : Int)) = true := by simp
      have h3 : decide ((k : Int) < (xs.length : Int)) = true := by simp; omega
      have hm : a.getD k d ∈ a := by
        have : a.getD k d = a[k] := by simp [List.getD, hlt]
        rw [this]
        exact List.getElem_mem hlt
      simp only [h1, h2, h3, br, ck, Bool.and_self, Int.toNat_natCast, hf _ hm, Option.bind_some]
      rw [w64_eq (by omega) (by omega)]
      have := copy_loop X d f hstep a hf hlen n (k + 1) (xs.set k (a.getD k d)) (by simpa using hl) (by omega) (take_succ_set hl hlt ht) (by omega)
      simpa using this
    · have hk' : k = a.length := by omega
      have h1 : decide ((k : Int) < (a.length : Int)) = false := by simp; omega
      simp only [h1, br]
      subst hk'
      rw [← hl, List.take_length, hl, List.take_length] at ht
      rw [ht]

theorem eq_loop {α β : Type} (X : Nat → List α → List α → Int → Option (Bool ⊕ Unit)) (d : α) (g : α → α → Option (Bool ⊕ Unit) → Option (Bool ⊕ Unit))
    (hstep : ∀ n a b i, X (n + 1) a b i = br (decide (i < (a.length : Int))) (ck (decide (0 ≤ i) && decide (i < (a.length : Int))) (ck (decide (0 ≤ i) && decide (i < (b.length : Int))) (g (a.getD i.toNat d) (b.getD i.toNat d) (X n a b (w64 (i + 1)))))) (some (.inr ())))
    (a : List α) (hg : ∀ x ∈ a, ∀ r, g x x r = r) (hlen : a.length ≤ 9223372036854775807) :
    ∀ (n k : Nat), k ≤ a.length → a.length - k < n → X n a a (k : Int) = some (.inr ())
  | 0, k, _, h => by omega
  | n + 1, k, hk, h => by
    rw [hstep]
    by_cases hlt : k < a.length
    · have h1 : decide ((k : Int) < (a.length : Int)) = true := by simp; omega
      have h2 : decide (0 ≤ (k : Int)) = true := by simp
      have hm : a.getD k d ∈ a := by
        have : a.getD k d = a[k] := by simp [List.getD, hlt]
        rw [this]
        exact List.getElem_mem hlt
      simp only [h1, h2, br, ck, Bool.and_self, Int.toNat_natCast, hg _ hm]
      rw [w64_eq (by omega) (by omega)]
      have := eq_loop (β := β) X d g hstep a hg hlen n (k + 1) (by omega) (by omega)
      simpa using this
    · have h1 : decide ((k : Int) < (a.length : Int)) = false := by simp; omega
      simp only [h1, br]

/-! ### What is counted off -/
def SzOk {α : Type} (X : α → Int → Option (Int × Unit)) (P : α → Prop) (a : α) : Prop := ∀ left : Int, 0 ≤ left → left ≤ 1048576 → ∃ r, X a left = some (r, ()) ∧ r ≤ left ∧ (0 ≤ r → P a)

theorem sz_bind {α : Type} {X : α → Int → Option (Int × Unit)} {P : α → Prop} {a : α} (h : SzOk X P a) {left : Int} (h0 : 0 ≤ left) (h1 : left ≤ 1048576) {Q : Prop} {K : Int × Unit → Option (Int × Unit)}
    (hK : ∀ r, 0 ≤ r → r ≤ left → P a → ∃ r', K (r, ()) = some (r', ()) ∧ r' ≤ r ∧ (0 ≤ r' → Q)) :
    ∃ r', ((X a left).bind fun r => br (decide (r.1 < 0)) (some ((-1), ())) (K r)) = some (r', ()) ∧ r' ≤ left ∧ (0 ≤ r' → Q) := by
  obtain ⟨r, hr, hle, hP⟩ := h left h0 h1
  rw [hr]
  simp only [Option.bind_some]
  by_cases hn : r < 0
  · refine ⟨-1, by simp [hn, br], by omega, fun h => by omega⟩
  · obtain ⟨r', h2, h3, h4⟩ := hK r (by omega) hle (hP (by omega))
    exact ⟨r', by simp [hn, br, h2], by omega, h4⟩

theorem sz_len {n : Nat} (hn : n ≤ 9223372036854775807) {left : Int} (h0 : 0 ≤ left) (h1 : left ≤ 1048576) {Q : Prop} {K : Option (Int × Unit)}
    (hK : ∀ r, r = w64 (left - (n : Int)) → 0 ≤ r → r ≤ left → n ≤ 1048576 → ∃ r', K = some (r', ()) ∧ r' ≤ r ∧ (0 ≤ r' → Q)) :
    ∃ r', br (decide ((w64 (left - (n : Int))) < 0)) (some ((-1), ())) K = some (r', ()) ∧ r' ≤ left ∧ (0 ≤ r' → Q) := by
  have hw := w64_eq (n := left - (n : Int)) (by omega) (by omega)
  by_cases hneg : w64 (left - (n : Int)) < 0
  · exact ⟨-1, by simp [hneg, br], by omega, fun h => by omega⟩
  · obtain ⟨r', h2, h3, h4⟩ := hK _ rfl (by omega) (by omega) (by omega)
    exact ⟨r', by simp [hneg, br, h2], by omega, h4⟩

theorem sz_loop {α : Type} (X : Nat → List α → Int → Int → Option (Int ⊕ Int)) (d : α) (Y : α → Int → Option (Int × Unit)) (P : α → Prop)
    (hstep : ∀ n a left i, X (n + 1) a left i = br (decide (i < (a.length : Int))) (ck (decide (0 ≤ i) && decide (i < (a.length : Int))) ((Y (a.getD i.toNat d) left).bind fun r => br (decide (r.1 < 0)) (some (.inl (-1))) (X n a r.1 (w64 (i + 1))))) (some (.inr left)))
    (a : List α) (hy : ∀ x ∈ a, SzOk Y P x) (hlen : a.length ≤ 9223372036854775807) :
    ∀ (n k : Nat) (left : Int), k ≤ a.length → a.length - k < n → 0 ≤ left → left ≤ 1048576 →
      X n a left (k : Int) = some (.inl (-1)) ∨ ∃ r, X n a left (k : Int) = some (.inr r) ∧ 0 ≤ r ∧ r ≤ left ∧ ∀ j x, k ≤ j → a[j]? = some x → P x
  | 0, k, _, _, h, _, _ => by omega
  | n + 1, k, left, hk, h, h0, h1 => by
    rw [hstep]
    by_cases hlt : k < a.length
    · have e1 : decide ((k : Int) < (a.length : Int)) = true := by simp; omega
      have e2 : decide (0 ≤ (k : Int)) = true := by simp
      have hget : a.getD k d = a[k] := by simp [List.getD, hlt]
      have hm : a.getD k d ∈ a := by rw [hget]; exact List.getElem_mem hlt
      obtain ⟨r, hr, hle, hP⟩ := hy _ hm left h0 h1
      simp only [e1, e2, br, ck, Bool.and_self, Int.toNat_natCast, hr, Option.bind_some]
      by_cases hn : r < 0
      · exact .inl (by simp [hn])
      · rw [w64_eq (by omega) (by omega)]
        have ih := sz_loop X d Y P hstep a hy hlen n (k + 1) r (by omega) (by omega) (by omega) (by omega)
        simp only [hn, decide_false, Int.natCast_add, Int.natCast_one] at ih ⊢
        rcases ih with ih | ⟨r', h2, h3, h4, h5⟩
        · exact .inl ih
        · refine .inr ⟨r', h2, h3, by omega, fun j x hj hx => ?_⟩
          rcases Nat.eq_or_lt_of_le hj with he | hj
          · subst he
            rw [List.getElem?_eq_getElem hlt] at hx
            cases hx
            rw [← hget]
            exact hP (by omega)
          · exact h5 j x hj hx
    · have e1 : decide ((k : Int) < (a.length : Int)) = false := by simp; omega
      simp only [e1, br]
      exact .inr ⟨left, rfl, h0, Int.le_refl _, fun j x hj hx => by
        have := (List.getElem?_eq_some_iff.1 hx).1
        omega⟩
end Go.Am
