/- Plain laws: chains out of texts. No condition. -/
import Derived.Test.YtmmajfbohkbpjaaPaLawSteps
set_option linter.unusedVariables false
set_option linter.unusedSimpArgs false
namespace Go.Am.Try
open Go.Am
abbrev StepD := Int × List TxD
def stepF (last : Int) (p : List UInt8) : Option (Int × StepD) :=
  if 124 ∈ p ∧ (numL (cutI p 124).1).2 = true ∧ (txsOf (cutI p 124).2).2 = true ∧ last < (numL (cutI p 124).1).1 ∧ (numL (cutI p 124).1).1 ≤ 60 ∧ (txsOf (cutI p 124).2).1.length ≤ 2
  then some ((numL (cutI p 124).1).1, ((numL (cutI p 124).1).1, (txsOf (cutI p 124).2).1)) else none
def stepsOf (l : List UInt8) : List StepD × Bool := if l = [] then ([], true) else match parts 47 l with
  | [] => ([], false)
  | p0 :: ps => if ¬ p0 = [] ∨ 30 < ps.length then ([], false) else match allF stepF 0 ps with
    | none => ([], false)
    | some r => (r, true)
def StepOk (s : StepD) : Prop := 0 ≤ s.1 ∧ s.1 ≤ 60 ∧ s.2.length ≤ 2 ∧ ∀ x ∈ s.2, txOk x = true
theorem stepF_ok {last : Int} {p : List UInt8} {s' : Int} {b : StepD} (h : stepF last p = some (s', b)) : StepOk b ∧ s' = b.1 := by
  unfold stepF at h
  split at h
  · rename_i hc
    cases h
    exact ⟨⟨(numL_i64 _).1, hc.2.2.2.2.1, hc.2.2.2.2.2, txsOf_ok _⟩, rfl⟩
  · cases h
theorem stepsOf_ok (l : List UInt8) : ∀ s ∈ (stepsOf l).1, StepOk s := by
  unfold stepsOf
  split
  · simp
  · split
    · simp
    · split
      · simp
      · split
        · simp
        · rename_i hr
          exact allF_all (Q := StepOk) (fun s p s' b h => (stepF_ok h).1) hr
theorem stepsOf_len (l : List UInt8) : (stepsOf l).1.length ≤ 30 := by
  unfold stepsOf
  split
  · simp
  · split
    · simp
    · split
      · simp
      · split
        · simp
        · rename_i hr
          have := allF_len hr
          simp only
          omega
theorem br6 {α : Type} (a b c d e f : Bool) (x y : α) : br (!a) x (br (!b) x (br (!c) x (br d x (br e x (br f x y))))) = if a = true ∧ b = true ∧ c = true ∧ d = false ∧ e = false ∧ f = false then y else x := by
  cases a <;> cases b <;> cases c <;> cases d <;> cases e <;> cases f <;> rfl
theorem br5 {α : Type} (a b c d f : Bool) (x y : α) : br (!a) x (br (!b) x (br (!c) x (br (!d) x (br f x y)))) = if a = true ∧ b = true ∧ c = true ∧ d = true ∧ f = false then y else x := by
  cases a <;> cases b <;> cases c <;> cases d <;> cases f <;> rfl
theorem Steps_law {l : List UInt8} (hl : l.length ≤ 1073741824) : spec_Steps F0 (tx l) = some ((stepsOf l).1, (stepsOf l).2, ()) := by
  have hpl := parts_len 47 l
  have hpm := fun p (h : p ∈ parts 47 l) => parts_mem h
  rw [spec_Steps_eq, nil_eq]
  unfold stepsOf
  by_cases h0 : l = []
  · rw [decide_eq_true h0, if_pos h0]
    rfl
  · rw [decide_eq_false h0, br_false, if_neg h0, show spec_Split F0 (tx l) 47 = _ from Split_law 47 (by omega), bnd]
    cases hP : parts 47 l with
    | nil => exact absurd hP (parts_ne 47 l)
    | cons p0 ps =>
      rw [hP] at hpl hpm
      simp only [List.length_cons] at hpl
      have ha0 : at_ ((p0 :: ps).map tx) 0 ByteArray.empty = tx p0 := rfl
      have ho : okI 0 (((p0 :: ps).map tx).length : Int) = true := okI_nat (k := 0) (by simp)
      simp only [ho, ck_true, ha0, nil_eq]
      by_cases hp0 : p0 = []
      · by_cases h30 : 30 < ps.length
        · rw [decide_eq_true hp0, Bool.not_true, br_false, decide_eq_true (by rw [List.length_map, List.length_cons]; omega), br_true, if_pos (.inr h30)]
        · rw [decide_eq_true hp0, Bool.not_true, br_false, decide_eq_false (by rw [List.length_map, List.length_cons]; omega), br_false, if_neg (by simp [hp0]; omega)]
          have := fold_loop stepF (fun s => 0 ≤ s ∧ s ≤ 60) ps (fun n s i xs => spec_Steps_1 F0 (spec_Steps_1_k F0) n (spec_Steps_1_s s (i + 1) [] xs ((p0 :: ps).map tx))) (some ([], false, ())) (fun xs => some (xs, true, ())) (fun n k s xs p hk hp hs hx => ?_) (fun n s xs hx => ?_) (fun s p s' b hs hf => ?_) F0.n 0 0 [] (Nat.zero_le _) (by rw [n_eq]; omega) ⟨by omega, by omega⟩ rfl
          · simp only [List.drop_zero, List.nil_append] at this
            rw [show ((0 : Nat) : Int) + 1 = 1 from rfl] at this
            rw [this]
            cases allF stepF 0 ps <;> rfl
          · have hpl1 := hpm p (List.mem_cons_of_mem _ (List.mem_of_getElem? hp))
            have hk1 : k + 1 < ((p0 :: ps).map tx).length := by simp; omega
            have hat : at_ ((p0 :: ps).map tx) (((k + 1 : Nat)) : Int) ByteArray.empty = tx p := at_map _ _ (by simpa using hp)
            rw [show ((k : Int) + 1) = ((k + 1 : Nat) : Int) by omega, spec_Steps_1_step, dec_lt hk1, br_true, okI_nat hk1, ck_true, hat, show spec_l2Cut F0 (tx p) 124 = _ from l2Cut_law 124 (by omega), bnd]
            have hrest := cutI_le p 124
            have hmx := numL_i64 (cutI p 124).1
            have htl := txsOf_len (cutI p 124).2
            by_cases hm : (124 : UInt8) ∈ p
            · rw [if_pos hm]
              simp only [number_law, bnd]
              rw [show spec_TxsOf F0 (tx ((p.dropWhile (· != 124)).drop 1)) = some ((txsOf (cutI p 124).2).1, (txsOf (cutI p 124).2).2, ()) from TxsOf_law (by show (cutI p 124).2.length ≤ _; omega), bnd]
              simp only [spec_Steps_1_cr]
              rw [br6]
              unfold stepF
              have hw : (numL (p.takeWhile (· != 124))) = numL (cutI p 124).1 := rfl
              rw [hw]
              by_cases hcond : 124 ∈ p ∧ (numL (cutI p 124).1).2 = true ∧ (txsOf (cutI p 124).2).2 = true ∧ s < (numL (cutI p 124).1).1 ∧ (numL (cutI p 124).1).1 ≤ 60 ∧ (txsOf (cutI p 124).2).1.length ≤ 2
              · have q1 : decide ((numL (cutI p 124).1).1 ≤ s) = false := decide_eq_false (by omega)
                have q2 : decide ((numL (cutI p 124).1).1 > 60) = false := decide_eq_false (by omega)
                have q3 : decide (((txsOf (cutI p 124).2).1.length : Int) > 2) = false := decide_eq_false (by omega)
                rw [if_pos hcond, if_pos ⟨rfl, hcond.2.1, hcond.2.2.1, q1, q2, q3⟩]
                simp only
                rw [okA_le (b := [((numL (cutI p 124).1).1, (txsOf (cutI p 124).2).1)].length) (k := 32) (by omega) (by omega) (by simp only [List.length_cons, List.length_nil]; omega), ck_true, w64_succ (by omega)]
                rfl
              · rw [if_neg hcond, if_neg (fun h => hcond ?_)]
                have q1 : decide ((numL (cutI p 124).1).1 ≤ s) = false := h.2.2.2.1
                have q2 : decide ((numL (cutI p 124).1).1 > 60) = false := h.2.2.2.2.1
                have q3 : decide (((txsOf (cutI p 124).2).1.length : Int) > 2) = false := h.2.2.2.2.2
                have r1 := of_decide_eq_false q1
                have r2 := of_decide_eq_false q2
                have r3 := of_decide_eq_false q3
                exact ⟨hm, h.2.1, h.2.2.1, by omega, by omega, by omega⟩
            · rw [if_neg hm]
              unfold stepF
              rw [if_neg (fun h => hm h.1), number_law, bnd, show spec_TxsOf F0 (tx []) = _ from TxsOf_law (by simp), bnd]
              simp only [Bool.not_false, br_true, spec_Steps_1_cr]
          · rw [show ((ps.length : Int) + 1) = (((p0 :: ps).map tx).length : Int) by simp, spec_Steps_1_step, dec_nlt, br_false, spec_Steps_1_ce0]
          · obtain ⟨h1, h2⟩ := stepF_ok hf
            rw [h2]
            exact ⟨h1.1, h1.2.1⟩
      · rw [decide_eq_false hp0, Bool.not_false, br_true, if_pos (.inl hp0)]
end Go.Am.Try
