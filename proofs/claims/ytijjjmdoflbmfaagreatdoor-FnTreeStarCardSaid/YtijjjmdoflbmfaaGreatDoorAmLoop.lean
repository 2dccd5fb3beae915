/- Plain laws of loops, of texts. No condition. -/
import Derived.Test.YtijjjmdoflbmfaaGreatDoorAmUse
import Derived.IntWalk
import Derived.Lib.Join
import Derived.Lib.ItoaLen
set_option linter.unusedVariables false
set_option linter.unusedSimpArgs false
namespace Go.Am
theorem w64_in {n : Int} (h1 : -9223372036854775808 ≤ n) (h2 : n ≤ 9223372036854775807) : w64 n = n := IntWalk.i64_in n ⟨h1, h2⟩
theorem w64_succ {k : Nat} (h : k + 1 ≤ 9223372036854775807) : w64 ((k : Int) + 1) = ((k + 1 : Nat) : Int) := by rw [w64_in (by omega) (by omega)]; omega
theorem okI_nat {k n : Nat} (h : k < n) : okI (k : Int) (n : Int) = true := by simp [okI]; omega
theorem dec_lt {k n : Nat} (h : k < n) : decide ((k : Int) < (n : Int)) = true := by simp; omega
theorem dec_nlt {n : Nat} : decide ((n : Int) < (n : Int)) = false := by simp
theorem at_nat {α : Type} (a : List α) (k : Nat) (d : α) : at_ a (k : Int) d = a.getD k d := rfl
-- (not by 'rfl': simp must leave a proof: what is compared else is unfolded in unary)
theorem br_true {α : Type} (x y : α) : br true x y = x := by rw [show br true x y = x from rfl]
theorem br_false {α : Type} (x y : α) : br false x y = y := by rw [show br false x y = y from rfl]
theorem ck_true {α : Type} (x : Option α) : ck true x = x := by rw [show ck true x = x from rfl]
theorem bnd {α β : Type} (a : α) (f : α → Option β) : (some a).bind f = f a := by rw [show (some a).bind f = f a from rfl]
theorem n_eq : F0.n = 18446744073709551616 := rfl
theorem okC_le {a b : Nat} (h : a + b ≤ 9223372036854775807) : okC F0 a b = true := decide_eq_true (show ((a + b : Nat) : Int) ≤ 9223372036854775807 by omega)
theorem okA_le {a b : Nat} {k : Int} (h0 : 0 ≤ k) (hk : k ≤ 1024) (h : a + b ≤ 137438953472) : okA F0 a b k = true := by
  have h1 : ((a + b : Nat) : Int) * k ≤ 137438953472 * 1024 := Int.mul_le_mul (by omega) hk h0 (by omega)
  exact decide_eq_true (show ((a + b : Nat) : Int) * k ≤ 140737488355328 by omega)
theorem okM_le {n : Nat} {k : Int} (h0 : 0 ≤ k) (hk : k ≤ 1024) (h : n ≤ 137438953472) : okM F0 (n : Int) (n : Int) k = true := by
  have h1 : (n : Int) * k ≤ 137438953472 * 1024 := Int.mul_le_mul (by omega) hk h0 (by omega)
  have h2 : decide ((n : Int) * k ≤ 140737488355328) = true := decide_eq_true (by omega)
  show (decide (0 ≤ (n : Int)) && (n : Int) == (n : Int) && decide ((n : Int) * k ≤ 140737488355328)) = true
  rw [h2]
  simp

/-! ### Loops -/
theorem loop_mu {σ β : Type} (X : Nat → σ → Option β) (R : Option β) (I : σ → Prop) (μ : σ → Nat)
    (hs : ∀ n x, I x → X (n + 1) x = R ∨ ∃ x', X (n + 1) x = X n x' ∧ I x' ∧ μ x' < μ x) : ∀ n x, I x → μ x < n → X n x = R
  | 0, _, _, h => absurd h (Nat.not_lt_zero _)
  | n + 1, x, hI, h => by
    rcases hs n x hI with h1 | ⟨x', h1, h2, h3⟩
    · exact h1
    · rw [h1]
      exact loop_mu X R I μ hs n x' h2 (by omega)
theorem loop_to {ζ β : Type} (X : Nat → Int → ζ → Option β) (L : Nat) (I : Nat → ζ → Prop) (R : Option β)
    (hs : ∀ n k z, k < L → I k z → X (n + 1) (k : Int) z = R ∨ ∃ z', X (n + 1) (k : Int) z = X n ((k + 1 : Nat) : Int) z' ∧ I (k + 1) z')
    (he : ∀ n z, I L z → X (n + 1) (L : Int) z = R) : ∀ n k z, k ≤ L → I k z → L - k < n → X n (k : Int) z = R
  | 0, _, _, _, _, h => absurd h (Nat.not_lt_zero _)
  | n + 1, k, z, hk, hI, h => by
    rcases Nat.lt_or_ge k L with hlt | hge
    · rcases hs n k z hlt hI with h1 | ⟨z', h1, h2⟩
      · exact h1
      · rw [h1]
        exact loop_to X L I R hs he n (k + 1) z' hlt h2 (by omega)
    · obtain rfl : k = L := by omega
      exact he n z hI
theorem getD_mem {α : Type} {a : List α} {k : Nat} (h : k < a.length) (d : α) : a.getD k d ∈ a := by
  have : a.getD k d = a[k] := by simp [List.getD, h]
  rw [this]
  exact List.getElem_mem h
theorem getD_is {α : Type} {a : List α} {k : Nat} (h : k < a.length) (d : α) : a[k]? = some (a.getD k d) := by simp [List.getD, h]

/-! ### What is counted off -/
/-! ### Texts -/
def tx (l : List UInt8) : ByteArray := ⟨l.toArray⟩
theorem tx_append (a b : List UInt8) : tx a ++ tx b = tx (a ++ b) := by
  apply ByteArray.ext
  show (tx a ++ tx b).data = (a ++ b).toArray
  simp [tx]
theorem tx_size (a : List UInt8) : (tx a).size = a.length := by simp [tx, ByteArray.size]
theorem tx_of (b : ByteArray) : b = tx b.data.toList := rfl
theorem tx_list (a : List UInt8) : (tx a).data.toList = a := by simp [tx]
theorem dig {v : Nat} (h : v < 10) : strOf [IntKind.wrap .u8 (w64 (48 + (v : Int)))] = tx [UInt8.ofNat (48 + v)] := by
  rw [w64_in (by omega) (by omega), IntWalk.u8_in _ (by omega)]
  simp only [strOf, tx, List.map_cons, List.map_nil]
  congr 4
/-- Digits; none for 0. -/
def digs (u : Nat) : List UInt8 := if u = 0 then [] else Lib.decDigits u
theorem digs_rec {u : Nat} (h : u ≠ 0) : digs u = digs (u / 10) ++ [UInt8.ofNat (48 + u % 10)] := by
  unfold digs
  rw [if_neg h, Lib.decDigits]
  by_cases h10 : u < 10
  · rw [dif_pos h10, if_pos (by omega), Nat.mod_eq_of_lt h10]
    rfl
  · rw [dif_neg h10, if_neg (by omega)]
theorem join_snoc {l : List (List UInt8)} (h : l ≠ []) (y sep : List UInt8) : Lib.join (l ++ [y]) sep = Lib.join l sep ++ sep ++ y := by
  cases l with
  | nil => exact absurd rfl h
  | cons x r =>
    rw [List.cons_append, Lib.join_cons, Lib.join_cons]
    simp [Lib.joinTail]
theorem join_le {l : List (List UInt8)} {c : Nat} (h : ∀ x ∈ l, x.length ≤ c) (s : UInt8) : (Lib.join l [s]).length ≤ (c + 1) * l.length := by
  have hl : ∀ l : List (List UInt8), (∀ x ∈ l, x.length ≤ c) → Lib.lens l ≤ c * l.length := by
    intro l
    induction l with
    | nil => intro _; simp [Lib.lens]
    | cons x r ih =>
      intro h
      have h1 := ih fun y hy => h y (List.mem_cons_of_mem _ hy)
      have h2 := h x List.mem_cons_self
      simp only [Lib.lens, List.map_cons, List.sum_cons, List.length_cons, Nat.mul_succ] at h1 ⊢
      omega
  cases l with
  | nil => simp [Lib.join_nil]
  | cons x r =>
    rw [Lib.join_length]
    have := hl (x :: r) h
    simp only [List.length_cons, List.length_nil, Nat.mul_succ, Nat.succ_mul, Nat.add_mul] at this ⊢
    omega
end Go.Am
