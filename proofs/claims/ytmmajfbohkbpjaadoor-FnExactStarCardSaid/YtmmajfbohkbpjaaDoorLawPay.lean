/- Plain laws: payments. No condition. -/
import Derived.Test.YtmmajfbohkbpjaaDoorLawSteps2
set_option linter.unusedVariables false
set_option linter.unusedSimpArgs false
namespace Go.Am.Tryd
open Go.Am
abbrev LedD := List Int × List Int
def ledOk (l : LedD) : Bool := decide (l.1.length = 4) && (decide (l.2.length = 4) && (l.1.all (fun n => inB n 0 400) && l.2.all (fun n => inB n 0 100)))
theorem allWithin_law {a : List Int} (lo hi : Int) (h : a.length ≤ 1048576) : impl_allWithin F0 a lo hi = some (a.all (fun n => inB n lo hi), ()) := by
  rw [impl_allWithin_eq]
  refine loop_to (fun n i (_ : Unit) => impl_allWithin_1 F0 (impl_allWithin_1_k F0) n (impl_allWithin_1_s lo hi a (a.length : Int) i)) a.length (fun k _ => ∀ x ∈ a.take k, inB x lo hi = true) _ (fun n k _ hk hI => ?_) (fun n _ hI => ?_) F0.n 0 () (Nat.zero_le _) (by simp) (by rw [n_eq]; omega)
  · rw [impl_allWithin_1_step, dec_lt hk, br_true, okI_nat hk, ck_true, at_nat, within_law, bnd]
    show (br (!inB (a.getD k 0) lo hi) _ _ = _) ∨ ∃ z' : Unit, br (!inB (a.getD k 0) lo hi) _ _ = _ ∧ _
    cases hb : inB (a.getD k 0) lo hi with
    | false =>
      left
      rw [Bool.not_false, br_true, impl_allWithin_1_cr]
      have : a.all (fun n => inB n lo hi) = false := List.all_eq_false.2 ⟨_, getD_mem hk 0, by rw [hb]; simp⟩
      rw [this]
    | true =>
      right
      refine ⟨(), by rw [Bool.not_true, br_false, w64_succ (by omega)], ?_⟩
      intro x hx
      rw [List.take_add_one, getD_is hk 0] at hx
      rcases List.mem_append.1 hx with hx | hx
      · exact hI x hx
      · simp only [Option.toList_some, List.mem_singleton] at hx
        rw [hx]
        exact hb
  · rw [List.take_length] at hI
    rw [impl_allWithin_1_step, dec_nlt, br_false, impl_allWithin_1_ce0, List.all_eq_true.2 hI]
theorem LedgerOk_law2 {l : LedD} (h1 : l.1.length ≤ 1048576) (h2 : l.2.length ≤ 1048576) : impl_LedgerOk F0 l = some (ledOk l, ()) := by
  rw [impl_LedgerOk_eq, allWithin_law 0 400 h1, allWithin_law 0 100 h2]
  have e : ∀ n : Nat, ((n : Int) == 4) = decide (n = 4) := fun n => by
    by_cases h : n = 4
    · subst h; rfl
    · rw [decide_eq_false h]
      exact beq_eq_false_iff_ne.2 (by omega)
  simp only [bnd, e, br_and]
  rfl
theorem LedgerOk_law {l : LedD} : spec_LedgerOk F0 l = some (ledOk l, ()) := by
  rw [spec_LedgerOk_eq]
  have e : ∀ n : Nat, ((n : Int) != 4) = !decide (n = 4) := fun n => by
    by_cases h : n = 4
    · subst h; rfl
    · rw [decide_eq_false h]
      exact bne_iff_ne.2 (by omega)
  rw [e, e]
  unfold ledOk
  by_cases h1 : l.1.length = 4
  · by_cases h2 : l.2.length = 4
    · rw [decide_eq_true h1, decide_eq_true h2, Bool.not_true, br_false, br_false, Bool.true_and, Bool.true_and]
      refine loop_to (fun n i (_ : Unit) => spec_LedgerOk_1 F0 (spec_LedgerOk_1_k F0) n (spec_LedgerOk_1_s i l.1 l.2)) 4 (fun k _ => (∀ x ∈ l.1.take k, inB x 0 400 = true) ∧ ∀ x ∈ l.2.take k, inB x 0 100 = true) _ (fun n k _ hk hI => ?_) (fun n _ hI => ?_) F0.n 0 () (by omega) (by simp) (by rw [n_eq]; omega)
      · have hk1 : k < l.1.length := by omega
        have hk2 : k < l.2.length := by omega
        rw [spec_LedgerOk_1_step, show decide ((k : Int) < 4) = true from decide_eq_true (by omega), br_true, okI_nat hk1, ck_true, at_nat, l1In_law, bnd, okI_nat hk2, ck_true, at_nat, l1In_law, bnd]
        show (br (!inB (l.1.getD k 0) 0 400) _ (br (!inB (l.2.getD k 0) 0 100) _ _) = _) ∨ ∃ z' : Unit, br (!inB (l.1.getD k 0) 0 400) _ (br (!inB (l.2.getD k 0) 0 100) _ _) = _ ∧ _
        cases hb : inB (l.1.getD k 0) 0 400 with
        | false =>
          left
          rw [Bool.not_false, br_true, spec_LedgerOk_1_cr]
          have : l.1.all (fun n => inB n 0 400) = false := List.all_eq_false.2 ⟨_, getD_mem hk1 0, by rw [hb]; simp⟩
          rw [this]
          rfl
        | true =>
          cases hc : inB (l.2.getD k 0) 0 100 with
          | false =>
            left
            rw [Bool.not_true, br_false, Bool.not_false, br_true, spec_LedgerOk_1_cr]
            have : l.2.all (fun n => inB n 0 100) = false := List.all_eq_false.2 ⟨_, getD_mem hk2 0, by rw [hc]; simp⟩
            rw [this, Bool.and_false]
          | true =>
            right
            refine ⟨(), by rw [Bool.not_true, br_false, br_false, w64_succ (by omega)], ?_, ?_⟩
            · intro x hx
              rw [List.take_add_one, getD_is hk1 0] at hx
              rcases List.mem_append.1 hx with hx | hx
              · exact hI.1 x hx
              · simp only [Option.toList_some, List.mem_singleton] at hx
                rw [hx]
                exact hb
            · intro x hx
              rw [List.take_add_one, getD_is hk2 0] at hx
              rcases List.mem_append.1 hx with hx | hx
              · exact hI.2 x hx
              · simp only [Option.toList_some, List.mem_singleton] at hx
                rw [hx]
                exact hc
      · rw [List.take_of_length_le (by omega), List.take_of_length_le (by omega)] at hI
        rw [spec_LedgerOk_1_step, show decide (((4 : Nat) : Int) < 4) = false from rfl, br_false, spec_LedgerOk_1_ce0, List.all_eq_true.2 hI.1, List.all_eq_true.2 hI.2]
        rfl
    · rw [decide_eq_true h1, decide_eq_false h2]
      rfl
  · rw [decide_eq_false h1]
    rfl
def payD (l : LedD) (x : TxD) : LedD × Int :=
  if ledOk l = true ∧ txOk x = true then
    if x.2.2.2 < at_ l.2 x.1 0 then (l, 2)
    else if x.2.2.2 > at_ l.2 x.1 0 then (l, 3)
    else if x.2.2.1 > at_ l.1 x.1 0 then ((l.1, l.2.set x.1.toNat (x.2.2.2 + 1)), 4)
    else if ledOk ((l.1.set x.1.toNat (at_ l.1 x.1 0 - x.2.2.1)).set x.2.1.toNat (at_ (l.1.set x.1.toNat (at_ l.1 x.1 0 - x.2.2.1)) x.2.1 0 + x.2.2.1), l.2.set x.1.toNat (x.2.2.2 + 1)) = true
      then (((l.1.set x.1.toNat (at_ l.1 x.1 0 - x.2.2.1)).set x.2.1.toNat (at_ (l.1.set x.1.toNat (at_ l.1 x.1 0 - x.2.2.1)) x.2.1 0 + x.2.2.1), l.2.set x.1.toNat (x.2.2.2 + 1)), 0)
      else (l, 1)
  else (l, 1)
theorem ledOk_spec {l : LedD} (h : ledOk l = true) : l.1.length = 4 ∧ l.2.length = 4 ∧ (∀ x ∈ l.1, 0 ≤ x ∧ x ≤ 400) ∧ ∀ x ∈ l.2, 0 ≤ x ∧ x ≤ 100 := by
  simp only [ledOk, Bool.and_eq_true, decide_eq_true_eq, List.all_eq_true, inB] at h
  exact ⟨h.1, h.2.1, fun x hx => ⟨(h.2.2.1 x hx).1, (h.2.2.1 x hx).2⟩, fun x hx => ⟨(h.2.2.2 x hx).1, (h.2.2.2 x hx).2⟩⟩
theorem l3Copy_law {l : LedD} (h1 : l.1.length ≤ 1048576) (h2 : l.2.length ≤ 1048576) : spec_l3Copy F0 l = some (l, ()) := by
  rw [spec_l3Copy_eq, okA_le (by omega) (by omega) (by omega), ck_true, okA_le (by omega) (by omega) (by omega), ck_true]
  simp
theorem copyLedger_law {l : LedD} (h1 : l.1.length ≤ 1048576) (h2 : l.2.length ≤ 1048576) : impl_copyLedger F0 l = some (l, ()) := by
  rw [impl_copyLedger_eq, impl_copyInts_eq, impl_copyInts_eq, okA_le (by omega) (by omega) (by omega), ck_true, bnd, okA_le (by omega) (by omega) (by omega), ck_true, bnd]
  simp
end Go.Am.Tryd
