/- Plain laws: receipts. No condition. -/
import Derived.Test.YtmmajfbohkbpjaaDoorLawPay2
set_option linter.unusedVariables false
set_option linter.unusedSimpArgs false
namespace Go.Am.Tryd
open Go.Am
def led0 : LedD := ([100, 100, 100, 100], [0, 0, 0, 0])
theorem LedgerNew_law : spec_LedgerNew F0 = some (led0, ()) := by
  have st : ∀ n (k : Nat) (xs : List Int), k < 4 → xs.length = k → spec_LedgerNew_1 F0 (spec_LedgerNew_1_k F0) (n + 1) (spec_LedgerNew_1_s (k : Int) [] [] xs [0, 0, 0, 0]) = spec_LedgerNew_1 F0 (spec_LedgerNew_1_k F0) n (spec_LedgerNew_1_s ((k + 1 : Nat) : Int) [] [] (xs ++ [100]) [0, 0, 0, 0]) := fun n k xs hk hx => by
    rw [spec_LedgerNew_1_step, show decide ((k : Int) < 4) = true from decide_eq_true (by omega), br_true, okA_le (a := xs.length) (b := [(100 : Nat)].length) (k := 8) (by omega) (by omega) (by simp only [List.length_cons, List.length_nil]; omega), ck_true, w64_succ (by omega)]
  rw [spec_LedgerNew_eq, show okM F0 4 4 8 = true from okM_le (n := 4) (by omega) (by omega) (by omega), ck_true]
  refine loop_to (fun n i xs => spec_LedgerNew_1 F0 (spec_LedgerNew_1_k F0) n (spec_LedgerNew_1_s i [] [] xs [0, 0, 0, 0])) 4 (fun k xs => xs = List.replicate k 100) _ (fun n k xs hk hI => .inr ⟨_, st n k xs hk (by rw [hI]; simp), by rw [hI, ← List.replicate_succ']⟩) (fun n xs hI => ?_) F0.n 0 [] (by omega) rfl (by rw [n_eq]; omega)
  rw [spec_LedgerNew_1_step, show decide (((4 : Nat) : Int) < 4) = false from rfl, br_false, spec_LedgerNew_1_ce0, hI]
  rfl
theorem LedgerNew_law2 : impl_LedgerNew F0 = some (led0, ()) := by
  have st : ∀ n (k : Nat) (xs : List Int), k < 4 → xs.length = k → impl_LedgerNew_1 F0 (impl_LedgerNew_1_k F0) (n + 1) (impl_LedgerNew_1_s (k : Int) [] [] xs [0, 0, 0, 0]) = impl_LedgerNew_1 F0 (impl_LedgerNew_1_k F0) n (impl_LedgerNew_1_s ((k + 1 : Nat) : Int) [] [] (xs ++ [100]) [0, 0, 0, 0]) := fun n k xs hk hx => by
    rw [impl_LedgerNew_1_step, show decide ((k : Int) < 4) = true from decide_eq_true (by omega), br_true, okA_le (a := xs.length) (b := [(100 : Nat)].length) (k := 8) (by omega) (by omega) (by simp only [List.length_cons, List.length_nil]; omega), ck_true, w64_succ (by omega)]
  rw [impl_LedgerNew_eq, show okM F0 4 4 8 = true from okM_le (n := 4) (by omega) (by omega) (by omega), ck_true]
  refine loop_to (fun n i xs => impl_LedgerNew_1 F0 (impl_LedgerNew_1_k F0) n (impl_LedgerNew_1_s i [] [] xs [0, 0, 0, 0])) 4 (fun k xs => xs = List.replicate k 100) _ (fun n k xs hk hI => .inr ⟨_, st n k xs hk (by rw [hI]; simp), by rw [hI, ← List.replicate_succ']⟩) (fun n xs hI => ?_) F0.n 0 [] (by omega) rfl (by rw [n_eq]; omega)
  rw [impl_LedgerNew_1_step, show decide (((4 : Nat) : Int) < 4) = false from rfl, br_false, impl_LedgerNew_1_ce0, hI]
  rfl
/-! ### What is paid -/
def isRc (fr no : Int) (x : TxD) (c : Int) : Bool := (x.1 == fr) && ((x.2.2.2 == no) && ((c == 0) || (c == 4)))
def rcTxs (fr no h : Int) : LedD → List TxD → LedD ⊕ (Int × Int)
  | l, [] => .inl l
  | l, x :: xs => if isRc fr no x (payD l x).2 = true then .inr ((payD l x).2, h) else rcTxs fr no h (payD l x).1 xs
def rcSteps (fr no : Int) : Nat → LedD → List StepD → Int × Int
  | _, _, [] => (9, 0)
  | i, l, s :: ss => match rcTxs fr no ((i + 1 : Nat) : Int) l s.2 with
    | .inr r => r
    | .inl l' => rcSteps fr no (i + 1) l' ss
theorem paid_law (c : Int) : impl_paid F0 c = some ((c == 0) || (c == 4), ()) := by
  rw [impl_paid_eq]
  cases h : (c == 0) <;> rfl
def Led4 (l : LedD) : Prop := l.1.length = 4 ∧ l.2.length = 4
theorem pay4 {l : LedD} (h : Led4 l) (x : TxD) : Led4 (payD l x).1 := ⟨(payD_len l x).1.trans h.1, (payD_len l x).2.trans h.2⟩
theorem at_is {α : Type} {a : List α} {k : Nat} (h : k < a.length) (d : α) : at_ a (k : Int) d = a[k] := by
  rw [at_nat]
  simp [List.getD, h]
theorem eta4 (x : TxD) : (x.1, (x.2.1, (x.2.2.1, x.2.2.2))) = x := rfl
theorem rc_inner2 {γ : Type} (K : Ex → St → Option γ) (fr no : Int) (i : Nat) (hi : i < 30) (t23 t6 t61 : Int) (txs : List TxD) (ht : txs.length ≤ 2) (xs : List StepD) (l0 : LedD) (hl0 : Led4 l0) (m : Nat) (hm : 2 < m) :
    impl_ReceiptOf_2 F0 K m (impl_ReceiptOf_2_s fr no (i : Int) t23 (i : Int) txs (txs.length : Int) 0 t6 t61 xs l0.1 l0.2) = match rcTxs fr no ((i + 1 : Nat) : Int) l0 txs with
      | .inr r => K .ret (impl_ReceiptOf_2_r r.1 r.2)
      | .inl l => K (.exit 2) (impl_ReceiptOf_2_e2 fr no t23 (i : Int) t6 t61 xs l.1 l.2) := by
  refine loop_to (fun n j (l : LedD) => impl_ReceiptOf_2 F0 K n (impl_ReceiptOf_2_s fr no (i : Int) t23 (i : Int) txs (txs.length : Int) j t6 t61 xs l.1 l.2)) txs.length (fun j l => Led4 l ∧ rcTxs fr no ((i + 1 : Nat) : Int) l0 txs = rcTxs fr no ((i + 1 : Nat) : Int) l (txs.drop j)) _ (fun n j l hj hI => ?_) (fun n l hI => ?_) m 0 l0 (Nat.zero_le _) ⟨hl0, rfl⟩ (by omega)
  · obtain ⟨h4, hI⟩ := hI
    rw [impl_ReceiptOf_2_step, dec_lt hj, br_true, okI_nat hj, ck_true, at_is hj, eta4, Pay_law2 (l := (l.1, l.2)) (by have := h4.1; show l.1.length ≤ _; omega) (by have := h4.2; show l.2.length ≤ _; omega), bnd]
    simp only [paid_law, bnd, w64_succ (show i + 1 ≤ 9223372036854775807 by omega), w64_succ (show j + 1 ≤ 9223372036854775807 by omega)]
    rw [List.drop_eq_getElem_cons hj] at hI
    simp only [rcTxs] at hI
    have hbr : ∀ {α : Type} (a b c : Bool) (x y : α), br a (br b (br c x y) y) y = if (a && (b && c)) = true then x else y := fun a b c x y => by cases a <;> cases b <;> cases c <;> rfl
    rw [hbr]
    show (if isRc fr no txs[j] (payD l txs[j]).2 = true then _ else _) = _ ∨ ∃ z', (if isRc fr no txs[j] (payD l txs[j]).2 = true then _ else _) = _ ∧ _
    by_cases hc : isRc fr no txs[j] (payD l txs[j]).2 = true
    · left
      rw [if_pos hc] at hI ⊢
      rw [hI]
    · right
      rw [if_neg hc] at hI ⊢
      exact ⟨(payD l txs[j]).1, rfl, pay4 h4 _, hI⟩
  · obtain ⟨h4, hI⟩ := hI
    rw [List.drop_length] at hI
    rw [impl_ReceiptOf_2_step, dec_nlt, br_false, hI]
    rfl
def rcOf (name : List UInt8) (fr no : Int) : Int × Int := rcSteps fr no 0 led0 (stepsOf name).1
theorem ReceiptOf_law2 {name : List UInt8} (hn : name.length ≤ 1073741824) (fr no : Int) : impl_ReceiptOf F0 (tx name) fr no = some (rcOf name fr no, ()) := by
  rw [impl_ReceiptOf_eq, Steps_law2 hn, bnd, LedgerNew_law2, bnd]
  have hlen := stepsOf_len name
  have hok := stepsOf_ok name
  unfold rcOf
  generalize hss : (stepsOf name).1 = ss at hlen hok
  refine loop_to (fun n i (l : LedD) => impl_ReceiptOf_1 F0 (impl_ReceiptOf_1_k F0) n (impl_ReceiptOf_1_s fr no (ss.length : Int) i 0 0 ss l.1 l.2)) ss.length (fun i l => Led4 l ∧ rcSteps fr no 0 led0 ss = rcSteps fr no i l (ss.drop i)) _ (fun n i l hi hI => ?_) (fun n l hI => ?_) F0.n 0 led0 (Nat.zero_le _) ⟨⟨rfl, rfl⟩, rfl⟩ (by rw [n_eq]; omega)
  · obtain ⟨h4, hI⟩ := hI
    have hs := hok _ (List.getElem_mem hi)
    rw [impl_ReceiptOf_1_step, dec_lt hi, br_true, okI_nat hi, ck_true, at_is hi, rc_inner2 _ fr no i (by omega) _ _ _ ss[i].2 hs.2.2.1 ss l h4 F0.n (by rw [n_eq]; omega)]
    rw [List.drop_eq_getElem_cons hi] at hI
    simp only [rcSteps] at hI
    cases hr : rcTxs fr no ((i + 1 : Nat) : Int) l ss[i].2 with
    | inr q =>
      left
      rw [hr] at hI
      simp only [impl_ReceiptOf_2_cr, impl_ReceiptOf_1_cr]
      rw [hI]
    | inl l' =>
      right
      rw [hr] at hI
      refine ⟨l', by simp only [impl_ReceiptOf_2_ce2, w64_succ (show i + 1 ≤ 9223372036854775807 by omega)], ?_, hI⟩
      have key : ∀ (txs : List TxD) (l : LedD), Led4 l → ∀ l', rcTxs fr no ((i + 1 : Nat) : Int) l txs = .inl l' → Led4 l' := by
        intro txs
        induction txs with
        | nil => intro l h l' hr; cases hr; exact h
        | cons x txs ih =>
          intro l h l' hr
          simp only [rcTxs] at hr
          split at hr
          · cases hr
          · exact ih _ (pay4 h x) _ hr
      exact key _ _ h4 _ hr
  · obtain ⟨h4, hI⟩ := hI
    rw [List.drop_length] at hI
    rw [impl_ReceiptOf_1_step, dec_nlt, br_false, impl_ReceiptOf_1_ce0, hI]
    rfl
end Go.Am.Tryd
