/- Plain laws: who is honest; votes judged; the longest; the laws of JudgeVotes, Top. No condition. -/
import Derived.Test.YtkkgagllehdhhaaGreatDoorZqLawShow
set_option linter.unusedVariables false
set_option linter.unusedSimpArgs false
namespace Go.Am.Tryz
open Go.Am
/-! ### Votes -/
/-! ### Who is honest -/
def honestTo (l : List Int) : Nat → List Int
  | 0 => []
  | k + 1 => honestTo l k ++ if (k : Int) ∈ l then [] else [(k : Int)]
theorem honest_len (l : List Int) : ∀ k, (honestTo l k).length ≤ k
  | 0 => Nat.le_refl _
  | k + 1 => by
    have := honest_len l k
    unfold honestTo
    split
    · rw [List.append_nil]
      omega
    · rw [List.length_append, List.length_singleton]
      omega
theorem honest_in (l : List Int) : ∀ k, ∀ x ∈ honestTo l k, 0 ≤ x ∧ x < k
  | 0, x, h => by cases h
  | k + 1, x, h => by
    unfold honestTo at h
    rcases List.mem_append.1 h with h1 | h1
    · have := honest_in l k x h1
      omega
    · split at h1
      · cases h1
      · rw [List.mem_singleton.1 h1]
        omega
def honestL (w : WorldD) : List Int := honestTo w.2.1 w.2.2.1.length
theorem honest_step {β : Type} (X : List Int → β) (l xs : List Int) (k : Int) : br (!decide (k ∈ l)) (X (xs ++ [k])) (X xs) = X (xs ++ if k ∈ l then [] else [k]) := by
  by_cases h : k ∈ l
  · rw [decide_eq_true h, if_pos h, List.append_nil]
    rfl
  · rw [decide_eq_false h, if_neg h]
    rfl
theorem Honest_law {w : WorldD} (h : WorldL w) : spec_Honest F0 w = some (honestL w, ()) := by
  have hr := h.r
  have hl := h.l
  rw [spec_Honest_eq]
  refine loop_to (fun n i (xs : List Int) => spec_Honest_1 F0 (spec_Honest_1_k F0) n (spec_Honest_1_s i w.1.1 w.1.2 w.2.1 w.2.2.1 w.2.2.2.1 w.2.2.2.2 xs)) w.2.2.1.length (fun k xs => xs = honestTo w.2.1 k) _ (fun n k xs hk hx => .inr ⟨honestTo w.2.1 (k + 1), ?_, rfl⟩) (fun n xs hx => ?_) _ 0 [] (Nat.zero_le _) rfl (by rw [n_eq]; omega)
  · have hn := honest_len w.2.1 k
    rw [← hx] at hn
    rw [spec_Honest_1_step, dec_lt hk, br_true, SetHas_law (by omega), bnd, okA_le (by omega) (by omega) (by rw [List.length_singleton]; omega), ck_true, w64_succ (by omega)]
    dsimp only
    rw [honest_step (fun xs => spec_Honest_1 F0 (spec_Honest_1_k F0) n (spec_Honest_1_s ((k + 1 : Nat) : Int) w.1.1 w.1.2 w.2.1 w.2.2.1 w.2.2.2.1 w.2.2.2.2 xs)), hx]
    rfl
  · rw [spec_Honest_1_step, dec_nlt, br_false, spec_Honest_1_ce0, hx]
    rfl
theorem Honest_law2 {w : WorldD} (h : WorldL w) : impl_Honest F0 w = some (honestL w, ()) := by
  have hr := h.r
  have hl := h.l
  rw [impl_Honest_eq]
  refine loop_to (fun n i (xs : List Int) => impl_Honest_1 F0 (impl_Honest_1_k F0) n (impl_Honest_1_s (w.2.2.1.length : Int) i w.1.1 w.1.2 w.2.1 w.2.2.1 w.2.2.2.1 w.2.2.2.2 xs)) w.2.2.1.length (fun k xs => xs = honestTo w.2.1 k) _ (fun n k xs hk hx => .inr ⟨honestTo w.2.1 (k + 1), ?_, rfl⟩) (fun n xs hx => ?_) _ 0 [] (Nat.zero_le _) rfl (by rw [n_eq]; omega)
  · have hn := honest_len w.2.1 k
    rw [← hx] at hn
    rw [impl_Honest_1_step, dec_lt hk, br_true, SetHas_law2 (by omega), bnd, okA_le (by omega) (by omega) (by rw [List.length_singleton]; omega), ck_true, w64_succ (by omega)]
    dsimp only
    rw [honest_step (fun xs => impl_Honest_1 F0 (impl_Honest_1_k F0) n (impl_Honest_1_s (w.2.2.1.length : Int) ((k + 1 : Nat) : Int) w.1.1 w.1.2 w.2.1 w.2.2.1 w.2.2.2.1 w.2.2.2.2 xs)), hx]
    rfl
  · rw [impl_Honest_1_step, dec_nlt, br_false, impl_Honest_1_ce0, hx]
    rfl
/-! ### The longest -/
/-- The honest ones' numbers as places. -/
theorem honest_at {w : WorldD} {k : Nat} (hk : k < (honestL w).length) : ∃ j : Nat, (honestL w)[k] = (j : Int) ∧ j < w.2.2.1.length := by
  have := honest_in w.2.1 w.2.2.1.length _ (List.getElem_mem hk)
  exact ⟨(honestL w)[k].toNat, by show _ = (((honestL w)[k]).toNat : Int); have h0 : 0 ≤ (honestL w)[k] := this.1; omega, by have h0 : 0 ≤ (honestL w)[k] := this.1; have h1 : (honestL w)[k] < w.2.2.1.length := this.2; omega⟩
/-! ### Chains that meet -/
end Go.Am.Tryz
