/- Plain laws: receipts, the reference's side; the law. No condition. -/
import Derived.Test.YtmmajfbohkbpjaaDoorLawRc
set_option linter.unusedVariables false
set_option linter.unusedSimpArgs false
namespace Go.Am.Tryd
open Go.Am
def payCodes : LedD → List TxD → List Int
  | _, [] => []
  | l, x :: xs => (payD l x).2 :: payCodes (payD l x).1 xs
def payFin : LedD → List TxD → LedD
  | l, [] => l
  | l, x :: xs => payFin (payD l x).1 xs
theorem payFin4 : ∀ {xs : List TxD} {l : LedD}, Led4 l → Led4 (payFin l xs)
  | [], _, h => h
  | x :: xs, l, h => payFin4 (xs := xs) (pay4 h x)
theorem payCodes_len : ∀ (xs : List TxD) (l : LedD), (payCodes l xs).length = xs.length
  | [], _ => rfl
  | x :: xs, l => by simp [payCodes, payCodes_len xs]
theorem payCodes_app : ∀ (a b : List TxD) (l : LedD), payCodes l (a ++ b) = payCodes l a ++ payCodes (payFin l a) b
  | [], _, _ => rfl
  | x :: a, b, l => by simp [payCodes, payFin, payCodes_app a b]
theorem payFin_snoc : ∀ (a : List TxD) (x : TxD) (l : LedD), payFin l (a ++ [x]) = (payD (payFin l a) x).1
  | [], _, _ => rfl
  | y :: a, x, l => by simp [payFin, payFin_snoc a x]
theorem payCodes_get : ∀ (xs : List TxD) (l : LedD) (j : Nat) (h : j < xs.length), (payCodes l xs)[j]? = some (payD (payFin l (xs.take j)) xs[j]).2
  | x :: xs, l, 0, h => rfl
  | x :: xs, l, j + 1, h => by
    simp only [payCodes, List.getElem?_cons_succ, List.take_succ_cons, payFin, List.getElem_cons_succ]
    exact payCodes_get xs _ j (by simpa using h)
theorem rc_fin {fr no h : Int} : ∀ {xs : List TxD} {l l' : LedD}, rcTxs fr no h l xs = .inl l' → l' = payFin l xs
  | [], _, _, hr => by cases hr; rfl
  | x :: xs, l, l', hr => by
    simp only [rcTxs] at hr
    split at hr
    · cases hr
    · have := rc_fin hr
      exact this
theorem PayAll_law {l : LedD} (h4 : Led4 l) {list : List TxD} (hl : list.length ≤ 1048576) : spec_PayAll F0 l list = some (payFin l list, payCodes l list, ()) := by
  rw [spec_PayAll_eq, l3Copy_law (by have := h4.1; omega) (by have := h4.2; omega), bnd]
  refine loop_to (fun n i (z : List Int × LedD) => spec_PayAll_1 F0 (spec_PayAll_1_k F0) n (spec_PayAll_1_s list i z.1 [] [] z.2.1 z.2.2)) list.length (fun k z => z.1 = payCodes l (list.take k) ∧ z.2 = payFin l (list.take k)) _ (fun n k z hk hI => .inr ⟨(z.1 ++ [(payD z.2 list[k]).2], (payD z.2 list[k]).1), ?_, ?_⟩) (fun n z hI => ?_) F0.n 0 ([], l) (Nat.zero_le _) ⟨rfl, rfl⟩ (by rw [n_eq]; omega)
  · obtain ⟨h1, h2⟩ := hI
    have q4 : Led4 z.2 := by rw [h2]; exact payFin4 h4
    have hz : z.1.length ≤ 1048576 := by rw [h1, payCodes_len, List.length_take]; omega
    rw [spec_PayAll_1_step, dec_lt hk, br_true, okI_nat hk, ck_true, at_is hk, eta4, Pay_law (l := (z.2.1, z.2.2)) (by have := q4.1; show z.2.1.length ≤ _; omega) (by have := q4.2; show z.2.2.length ≤ _; omega), bnd]
    simp only
    rw [okA_le (a := z.1.length) (b := [(payD (z.2.1, z.2.2) list[k]).2].length) (k := 8) (by omega) (by omega) (by simp only [List.length_cons, List.length_nil]; omega), ck_true, w64_succ (by omega)]
  · obtain ⟨h1, h2⟩ := hI
    have ht : list.take (k + 1) = list.take k ++ [list[k]] := by rw [List.take_add_one, List.getElem?_eq_getElem hk]; rfl
    refine ⟨?_, ?_⟩
    · rw [ht, payCodes_app, ← h1, ← h2]
      rfl
    · rw [ht, payFin_snoc, ← h2]
  · obtain ⟨h1, h2⟩ := hI
    rw [List.take_length] at h1 h2
    rw [spec_PayAll_1_step, dec_nlt, br_false, spec_PayAll_1_ce0, h1, h2]
theorem flat_len : ∀ {ss : List StepD}, (∀ s ∈ ss, StepOk s) → (ss.flatMap (·.2)).length ≤ 2 * ss.length
  | [], _ => by simp
  | s :: ss, h => by
    have h1 := (h s List.mem_cons_self).2.2.1
    have h2 := flat_len (ss := ss) fun x hx => h x (List.mem_cons_of_mem _ hx)
    rw [List.flatMap_cons, List.length_append, List.length_cons]
    omega
theorem TxsIn_law {l : List UInt8} (hl : l.length ≤ 1073741824) : spec_TxsIn F0 (tx l) = some ((stepsOf l).1.flatMap (·.2), ()) := by
  rw [spec_TxsIn_eq, Steps_law hl, bnd]
  have hlen := stepsOf_len l
  have hok := stepsOf_ok l
  generalize hss : (stepsOf l).1 = ss at hlen hok
  refine loop_to (fun n i xs => spec_TxsIn_1 F0 (spec_TxsIn_1_k F0) n (spec_TxsIn_1_s i xs ss)) ss.length (fun k xs => xs = (ss.take k).flatMap (·.2)) _ (fun n k xs hk hI => .inr ⟨_, ?_, rfl⟩) (fun n xs hI => ?_) F0.n 0 [] (Nat.zero_le _) rfl (by rw [n_eq]; omega)
  · have h1 := (hok _ (List.getElem_mem hk)).2.2.1
    have hx := flat_len (ss := ss.take k) fun x hx => hok x (List.mem_of_mem_take hx)
    rw [← hI, List.length_take] at hx
    rw [spec_TxsIn_1_step, dec_lt hk, br_true, okI_nat hk, ck_true, at_is hk, okA_le (a := xs.length) (b := ss[k].2.length) (k := 32) (by omega) (by omega) (by omega), ck_true, w64_succ (by omega), hI]
    have hf : (ss.take (k + 1)).flatMap (·.2) = (ss.take k).flatMap (·.2) ++ ss[k].2 := by
      rw [show ss.take (k + 1) = ss.take k ++ [ss[k]] by rw [List.take_add_one, List.getElem?_eq_getElem hk]; rfl, List.flatMap_append]
      simp
    rw [hf]
  · rw [List.take_length] at hI
    rw [spec_TxsIn_1_step, dec_nlt, br_false, spec_TxsIn_1_ce0, hI]
theorem br3 {α : Type} (a b c d : Bool) (x y : α) : br a (br b (br c x (br d x y)) y) y = if (a && (b && (c || d))) = true then x else y := by cases a <;> cases b <;> cases c <;> cases d <;> rfl
theorem rc_inner {γ : Type} (K : Ex → St → Option γ) (fr no : Int) (i k0 : Nat) (hk0 : k0 ≤ 100) (t6 t61 : Int) (ss : List StepD) (hs : i < ss.length) (hi : i < 30) (ht : ss[i].2.length ≤ 2) (codes : List Int) (l0 : LedD)
    (hc : ∀ j (h : j < ss[i].2.length), codes[k0 + j]? = some (payD (payFin l0 (ss[i].2.take j)) ss[i].2[j]).2) (m : Nat) (hm : 2 < m) :
    spec_ReceiptOf_2 F0 K m (spec_ReceiptOf_2_s fr no (k0 : Int) (i : Int) 0 t6 t61 ss codes) = match rcTxs fr no ((i + 1 : Nat) : Int) l0 ss[i].2 with
      | .inr r => K .ret (spec_ReceiptOf_2_r r.1 r.2)
      | .inl _ => K (.exit 2) (spec_ReceiptOf_2_e2 fr no ((k0 + ss[i].2.length : Nat) : Int) (i : Int) t6 t61 ss codes) := by
  refine loop_to (fun n j (_ : Unit) => spec_ReceiptOf_2 F0 K n (spec_ReceiptOf_2_s fr no (k0 + j) (i : Int) j t6 t61 ss codes)) ss[i].2.length (fun j _ => rcTxs fr no ((i + 1 : Nat) : Int) l0 ss[i].2 = rcTxs fr no ((i + 1 : Nat) : Int) (payFin l0 (ss[i].2.take j)) (ss[i].2.drop j)) _ (fun n j _ hj hI => ?_) (fun n _ hI => ?_) m 0 () (Nat.zero_le _) rfl (by omega)
  · have hcj := hc j hj
    have hkl : k0 + j < codes.length := (List.getElem?_eq_some_iff.1 hcj).1
    have hat : at_ codes ((k0 + j : Nat) : Int) 0 = (payD (payFin l0 (ss[i].2.take j)) ss[i].2[j]).2 := by
      rw [at_is hkl]
      exact Option.some.inj ((List.getElem?_eq_getElem hkl).symm.trans hcj)
    rw [show ((k0 : Int) + (j : Int)) = ((k0 + j : Nat) : Int) by omega, spec_ReceiptOf_2_step, okI_nat hs, ck_true, at_is hs, dec_lt hj, br_true, ck_true, okI_nat hj, ck_true, at_is hj, okI_nat hkl]
    simp only [ck_true, hat, w64_succ (show i + 1 ≤ 9223372036854775807 by omega), w64_succ (show j + 1 ≤ 9223372036854775807 by omega), w64_succ (show k0 + j + 1 ≤ 9223372036854775807 by omega)]
    rw [br3]
    rw [List.drop_eq_getElem_cons hj] at hI
    simp only [rcTxs] at hI
    show (if isRc fr no ss[i].2[j] (payD (payFin l0 (ss[i].2.take j)) ss[i].2[j]).2 = true then _ else _) = _ ∨ ∃ z' : Unit, (if isRc fr no ss[i].2[j] (payD (payFin l0 (ss[i].2.take j)) ss[i].2[j]).2 = true then _ else _) = _ ∧ _
    by_cases hcd : isRc fr no ss[i].2[j] (payD (payFin l0 (ss[i].2.take j)) ss[i].2[j]).2 = true
    · left
      rw [if_pos hcd] at hI ⊢
      rw [hI]
    · right
      rw [if_neg hcd] at hI ⊢
      refine ⟨(), by rw [show ((k0 : Int) + ((j + 1 : Nat) : Int)) = ((k0 + j + 1 : Nat) : Int) by omega], ?_⟩
      rw [hI, List.take_add_one, List.getElem?_eq_getElem hj]
      show _ = rcTxs fr no _ (payFin l0 (ss[i].2.take j ++ [ss[i].2[j]])) _
      rw [payFin_snoc]
  · rw [List.drop_length] at hI
    rw [show ((k0 : Int) + (ss[i].2.length : Int)) = ((k0 + ss[i].2.length : Nat) : Int) by omega, spec_ReceiptOf_2_step, okI_nat hs, ck_true, at_is hs, dec_nlt, br_false, hI]
    rfl
theorem ReceiptOf_law {name : List UInt8} (hn : name.length ≤ 1073741824) (fr no : Int) : spec_ReceiptOf F0 (tx name) fr no = some (rcOf name fr no, ()) := by
  have hlen := stepsOf_len name
  have hok := stepsOf_ok name
  have hfl := flat_len hok
  rw [spec_ReceiptOf_eq, Steps_law hn, bnd, LedgerNew_law, bnd, TxsIn_law hn, bnd, PayAll_law (l := led0) ⟨rfl, rfl⟩ (by show ((stepsOf name).1.flatMap (·.2)).length ≤ _; omega), bnd]
  unfold rcOf
  dsimp only
  generalize (stepsOf name).1 = ss at hlen hok hfl ⊢
  generalize hcs : payCodes led0 (ss.flatMap (·.2)) = codes
  have key : ∀ (n q : Nat) (z : Nat × LedD), q ≤ ss.length → (rcSteps fr no 0 led0 ss = rcSteps fr no q z.2 (ss.drop q) ∧ z.1 ≤ 2 * q ∧ (codes).drop z.1 = payCodes z.2 ((ss.drop q).flatMap (·.2))) → ss.length - q < n → spec_ReceiptOf_1 F0 (spec_ReceiptOf_1_k F0) n (spec_ReceiptOf_1_s fr no (z.1 : Int) (q : Int) 0 0 ss codes) = some (rcSteps fr no 0 led0 ss, ()) := by
    refine loop_to (fun n i (z : Nat × LedD) => spec_ReceiptOf_1 F0 (spec_ReceiptOf_1_k F0) n (spec_ReceiptOf_1_s fr no (z.1 : Int) i 0 0 ss codes)) ss.length (fun i z => rcSteps fr no 0 led0 ss = rcSteps fr no i z.2 (ss.drop i) ∧ z.1 ≤ 2 * i ∧ (codes).drop z.1 = payCodes z.2 ((ss.drop i).flatMap (·.2))) _ (fun n i z hi hI => ?_) (fun n z hI => ?_)
    · obtain ⟨hI, hk, hcd⟩ := hI
      have hs := hok _ (List.getElem_mem hi)
      rw [List.drop_eq_getElem_cons hi] at hI hcd
      rw [List.flatMap_cons] at hcd
      have hget : ∀ j (h : j < ss[i].2.length), (codes)[z.1 + j]? = some (payD (payFin z.2 (ss[i].2.take j)) ss[i].2[j]).2 := by
        intro j h
        rw [← List.getElem?_drop, hcd, payCodes_app, List.getElem?_append_left (by rw [payCodes_len]; exact h)]
        exact payCodes_get _ _ j h
      rw [spec_ReceiptOf_1_step, dec_lt hi, br_true, rc_inner _ fr no i z.1 (by omega) 0 0 ss hi (by omega) hs.2.2.1 _ z.2 hget F0.n (by rw [n_eq]; omega)]
      simp only [rcSteps] at hI
      cases hr : rcTxs fr no ((i + 1 : Nat) : Int) z.2 ss[i].2 with
      | inr q =>
        left
        rw [hr] at hI
        simp only [spec_ReceiptOf_2_cr, spec_ReceiptOf_1_cr]
        rw [hI]
      | inl l' =>
        right
        rw [hr] at hI
        refine ⟨(z.1 + ss[i].2.length, l'), by simp only [spec_ReceiptOf_2_ce2, w64_succ (show i + 1 ≤ 9223372036854775807 by omega)], hI, ?_, ?_⟩
        · have := hs.2.2.1
          show z.1 + ss[i].2.length ≤ 2 * (i + 1)
          omega
        · show (codes).drop (z.1 + ss[i].2.length) = payCodes l' _
          rw [← List.drop_drop, hcd, payCodes_app, rc_fin hr, List.drop_left' (payCodes_len _ _)]
    · obtain ⟨hI, _, _⟩ := hI
      rw [List.drop_length] at hI
      rw [spec_ReceiptOf_1_step, dec_nlt, br_false, spec_ReceiptOf_1_ce0, hI]
      rfl
  exact key F0.n 0 (0, led0) (Nat.zero_le _) ⟨by rw [List.drop_zero], Nat.le_refl _, by rw [List.drop_zero, List.drop_zero]; exact hcs.symm⟩ (by rw [n_eq]; omega)
theorem FnExactReceiptOf_true (name : ByteArray) (fr no : Int) : laws_FnExactReceiptOf F0 name fr no = some (true, ()) := by
  obtain ⟨l, rfl⟩ : ∃ l, name = tx l := ⟨_, tx_of name⟩
  rw [laws_FnExactReceiptOf_eq, tx_size]
  by_cases h : (l.length : Int) > 1048576
  · rw [decide_eq_true h, br_true]
  · rw [decide_eq_false h, br_false, ReceiptOf_law (by omega), bnd, ReceiptOf_law2 (by omega), bnd, laws_eqReceipt_eq]
    simp only [bne_self_eq_false, br_false, bnd, Bool.not_true]
end Go.Am.Tryd
