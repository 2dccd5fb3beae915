/- Plain laws: what is paid; the laws of JudgePaid, JudgeAll. No condition. -/
import Derived.Test.YtkkgagllehdhhaaGreatDoorZlLawKept
set_option linter.unusedVariables false
set_option linter.unusedSimpArgs false
namespace Go.Am.Tryz
open Go.Am
theorem PayAll_law2 {l : LedD} (h4 : Led4 l) {list : List TxD} (hl : list.length ≤ 1048576) : impl_PayAll F0 l list = some (payFin l list, payCodes l list, ()) := by
  rw [impl_PayAll_eq, copyLedger_law (by have := h4.1; omega) (by have := h4.2; omega), bnd]
  refine loop_to (fun n i (z : List Int × LedD) => impl_PayAll_1 F0 (impl_PayAll_1_k F0) n (impl_PayAll_1_s list (list.length : Int) i z.1 [] [] z.2.1 z.2.2)) list.length (fun k z => z.1 = payCodes l (list.take k) ∧ z.2 = payFin l (list.take k)) _ (fun n k z hk hI => .inr ⟨(z.1 ++ [(payD z.2 list[k]).2], (payD z.2 list[k]).1), ?_, ?_⟩) (fun n z hI => ?_) F0.n 0 ([], l) (Nat.zero_le _) ⟨rfl, rfl⟩ (by rw [n_eq]; omega)
  · obtain ⟨h1, h2⟩ := hI
    have q4 : Led4 z.2 := by rw [h2]; exact payFin4 h4
    have hz : z.1.length ≤ 1048576 := by rw [h1, payCodes_len, List.length_take]; omega
    rw [impl_PayAll_1_step, dec_lt hk, br_true, okI_nat hk, ck_true, at_is hk]
    try rw [eta4]
    rw [Pay_law2 (l := (z.2.1, z.2.2)) (by have := q4.1; show z.2.1.length ≤ _; omega) (by have := q4.2; show z.2.2.length ≤ _; omega), bnd]
    simp only
    rw [okA_le (a := z.1.length) (b := [(payD (z.2.1, z.2.2) list[k]).2].length) (k := 8) (by omega) (by omega) (by simp only [List.length_cons, List.length_nil]; omega), ck_true, w64_succ (by omega)]
  · obtain ⟨h1, h2⟩ := hI
    have ht : list.take (k + 1) = list.take k ++ [list[k]] := by rw [List.take_add_one, List.getElem?_eq_getElem hk]; rfl
    refine ⟨?_, ?_⟩
    · rw [ht, payCodes_app, ← h1, ← h2]
      rfl
    · rw [ht, payFin_snoc, ← h2]
  · obtain ⟨h1, h2⟩ := hI
    rw [List.take_length] at h1 h2
    rw [impl_PayAll_1_step, dec_nlt, br_false, impl_PayAll_1_ce0, h1, h2]
theorem TxsIn_law2 {l : List UInt8} (hl : l.length ≤ 1073741824) : impl_TxsIn F0 (tx l) = some ((stepsOf l).1.flatMap (·.2), ()) := by
  rw [impl_TxsIn_eq, Steps_law2 hl, bnd]
  have hlen := stepsOf_len l
  have hok := stepsOf_ok l
  generalize hss : (stepsOf l).1 = ss at hlen hok
  refine loop_to (fun n i xs => impl_TxsIn_1 F0 (impl_TxsIn_1_k F0) n (impl_TxsIn_1_s (ss.length : Int) i xs ss)) ss.length (fun k xs => xs = (ss.take k).flatMap (·.2)) _ (fun n k xs hk hI => .inr ⟨_, ?_, rfl⟩) (fun n xs hI => ?_) F0.n 0 [] (Nat.zero_le _) rfl (by rw [n_eq]; omega)
  · have h1 := (hok _ (List.getElem_mem hk)).2.2.1
    have hx := flat_len (ss := ss.take k) fun x hx => hok x (List.mem_of_mem_take hx)
    rw [← hI, List.length_take] at hx
    rw [impl_TxsIn_1_step, dec_lt hk, br_true, okI_nat hk, ck_true, at_is hk, okA_le (a := xs.length) (b := ss[k].2.length) (k := 32) (by omega) (by omega) (by omega), ck_true, w64_succ (by omega), hI]
    have hf : (ss.take (k + 1)).flatMap (·.2) = (ss.take k).flatMap (·.2) ++ ss[k].2 := by
      rw [show ss.take (k + 1) = ss.take k ++ [ss[k]] by rw [List.take_add_one, List.getElem?_eq_getElem hk]; rfl, List.flatMap_append]
      simp
    rw [hf]
  · rw [List.take_length] at hI
    rw [impl_TxsIn_1_step, dec_nlt, br_false, impl_TxsIn_1_ce0, hI]
def txsL (b : ByteArray) : List TxD := (stepsOf b.data.toList).1.flatMap (·.2)
theorem txsL_len (b : ByteArray) : (txsL b).length ≤ 60 := by
  have h1 := flat_len (stepsOf_ok b.data.toList)
  have h2 := stepsOf_len b.data.toList
  unfold txsL
  omega
theorem TxsIn_at {b : ByteArray} (h : b.size ≤ 1048576) : spec_TxsIn F0 b = some (txsL b, ()) := TxsIn_law (sz_le h)
theorem TxsIn_at2 {b : ByteArray} (h : b.size ≤ 1048576) : impl_TxsIn F0 b = some (txsL b, ()) := TxsIn_law2 (sz_le h)
theorem led0_4 : Led4 led0 := ⟨rfl, rfl⟩
/-! ### The ledger of a replica; its total -/
def stateOf (c : Int × Int) (r : RepD) : LedD := if repOk c r = true then payFin led0 (txsL r.2.2.2.1.2.2.2) else ([], [])
theorem State_law {r : RepD} (h : RepL r) (c : Int × Int) : spec_State F0 c r = some (stateOf c r, ()) := by
  have ht := txsL_len r.2.2.2.1.2.2.2
  rw [spec_State_eq, RepOk_law h, bnd, LedgerNew_law, bnd, TxsIn_at h.s.2, bnd, PayAll_law led0_4 (Nat.le_trans (txsL_len _) (by omega)), bnd]
  unfold stateOf
  cases repOk c r <;> rfl
theorem State_law2 {r : RepD} (h : RepL r) (c : Int × Int) : impl_State F0 c r = some (stateOf c r, ()) := by
  have ht := txsL_len r.2.2.2.1.2.2.2
  rw [impl_State_eq, RepOk_law2 h, bnd, LedgerNew_law2, bnd, TxsIn_at2 h.s.2, bnd, PayAll_law2 led0_4 (Nat.le_trans (txsL_len _) (by omega)), bnd]
  unfold stateOf
  cases repOk c r <;> rfl
theorem stateOf_len (c : Int × Int) (r : RepD) : (stateOf c r).1.length ≤ 4 := by
  unfold stateOf
  split
  · exact Nat.le_of_eq (payFin4 led0_4).1
  · exact Nat.zero_le _
def sumTo : List Int → Int → Int
  | [], n => n
  | x :: l, n => sumTo l (w64 (n + x))
theorem sumTo_snoc : ∀ (l : List Int) (x n : Int), sumTo (l ++ [x]) n = w64 (sumTo l n + x)
  | [], _, _ => rfl
  | _ :: l, x, _ => sumTo_snoc l x _
theorem Total_law {l : LedD} (h : l.1.length ≤ 1048576) : spec_Total F0 l = some (sumTo l.1 0, ()) := by
  rw [spec_Total_eq]
  refine loop_to (fun n i (q : Int) => spec_Total_1 F0 (spec_Total_1_k F0) n (spec_Total_1_s q i l.1 l.2)) l.1.length (fun k q => q = sumTo (l.1.take k) 0) _ (fun n k q hk hq => .inr ⟨sumTo (l.1.take (k + 1)) 0, ?_, rfl⟩) (fun n q hq => ?_) _ 0 0 (Nat.zero_le _) rfl (by rw [n_eq]; omega)
  · rw [spec_Total_1_step, dec_lt hk, br_true, okI_nat hk, ck_true, at_isD hk, w64_succ (by omega), take_succ_is hk, sumTo_snoc, ← hq]
  · rw [spec_Total_1_step, dec_nlt, br_false, spec_Total_1_ce0, hq, List.take_length]
theorem Total_law2 {l : LedD} (h : l.1.length ≤ 1048576) : impl_Total F0 l = some (sumTo l.1 0, ()) := by
  rw [impl_Total_eq]
  refine loop_to (fun n i (q : Int) => impl_Total_1 F0 (impl_Total_1_k F0) n (impl_Total_1_s q l.1 (l.1.length : Int) i)) l.1.length (fun k q => q = sumTo (l.1.take k) 0) _ (fun n k q hk hq => .inr ⟨sumTo (l.1.take (k + 1)) 0, ?_, rfl⟩) (fun n q hq => ?_) _ 0 0 (Nat.zero_le _) rfl (by rw [n_eq]; omega)
  · rw [impl_Total_1_step, dec_lt hk, br_true, okI_nat hk, ck_true, at_isD hk, w64_succ (by omega), take_succ_is hk, sumTo_snoc, ← hq]
  · rw [impl_Total_1_step, dec_nlt, br_false, impl_Total_1_ce0, hq, List.take_length]
/-! ### What is paid, once -/
def paidC (c : Int) : Bool := (c == 0) || (c == 4)
def okP (xs : List TxD) (cs : List Int) (i k : Nat) : Bool := !(paidC (cs.getD i 0) && (paidC (cs.getD k 0) && (((xs.getD i d0Tx).1 == (xs.getD k d0Tx).1) && ((xs.getD i d0Tx).2.2.2 == (xs.getD k d0Tx).2.2.2))))
def paidL (b : ByteArray) : Bool := (List.range (txsL b).length).all fun i => (List.range i).all (okP (txsL b) (payCodes led0 (txsL b)) i)
theorem paid_step {β : Type} (a b c d e f : Bool) (x y : β) :
    br a (br b (br e (br f x y) y) (br d (br e (br f x y) y) y)) (br b (br c (br e (br f x y) y) y) (br c (br d (br e (br f x y) y) y) y)) = if (!((a || c) && ((b || d) && (e && f)))) = true then y else x := by
  cases a <;> cases b <;> cases c <;> cases d <;> cases e <;> cases f <;> rfl
theorem paid_in {xs : List TxD} {cs : List Int} (hc : cs.length = xs.length) (hl : xs.length ≤ 1048576) {γ : Type} (κ : Ex → St → Option γ) (n : Nat) {i : Nat} (hi : i < xs.length) : spec_l21Paid_2 F0 (spec_l21Paid_2_k F0 κ n) F0.n (spec_l21Paid_2_s (i : Int) 0 xs cs) =
    if (List.range i).all (okP xs cs i) = true then spec_l21Paid_1 F0 κ n (spec_l21Paid_1_s ((i + 1 : Nat) : Int) xs cs) else κ .ret (spec_l21Paid_1_r false) := by
  refine all_to (fun m k => spec_l21Paid_2 F0 (spec_l21Paid_2_k F0 κ n) m (spec_l21Paid_2_s (i : Int) k xs cs)) i (okP xs cs i) _ _ (fun m k hk => ?_) (fun m => ?_) _ (by rw [n_eq]; omega)
  · have hk' : k < xs.length := by omega
    have hic : i < cs.length := by omega
    have hkc : k < cs.length := by omega
    simp only [spec_l21Paid_2_step, dec_lt hk, br_true, okI_nat hi, okI_nat hk', okI_nat hic, okI_nat hkc, ck_true, at_isD hi, at_isD hk', at_isD hic, at_isD hkc, spec_l21Paid_2_cr, w64_succ (show k + 1 ≤ 9223372036854775807 by omega)]
    rw [paid_step]
    unfold okP paidC
    rw [getD_is hi, getD_is hk', getD_is hic, getD_is hkc]
  · rw [spec_l21Paid_2_step, dec_nlt, br_false, spec_l21Paid_2_ce2, w64_succ (by omega)]
theorem l21Paid_law {b : ByteArray} (h : b.size ≤ 1048576) : spec_l21Paid F0 b = some (paidL b, ()) := by
  have ht := txsL_len b
  rw [spec_l21Paid_eq, TxsIn_at h, bnd, LedgerNew_law, bnd, PayAll_law led0_4 (Nat.le_trans (txsL_len _) (by omega)), bnd]
  dsimp only
  rw [all_to (fun m k => spec_l21Paid_1 F0 (spec_l21Paid_1_k F0) m (spec_l21Paid_1_s k (txsL b) (payCodes led0 (txsL b)))) (txsL b).length (fun i => (List.range i).all (okP (txsL b) (payCodes led0 (txsL b)) i)) (some (true, ())) (some (false, ())) (fun m k hk => ?_) (fun m => ?_) _ (by rw [n_eq]; omega), ite_some]
  · rfl
  · rw [spec_l21Paid_1_step, dec_lt hk, br_true, paid_in (payCodes_len _ _) (by omega) _ _ hk, spec_l21Paid_1_cr]
  · rw [spec_l21Paid_1_step, dec_nlt, br_false, spec_l21Paid_1_ce0]
def paidAt (w : WorldD) (i : Nat) : Bool := !(sumTo (stateOf w.1 (rp w i)).1 0 != 400) && paidL (rp w i).2.2.2.1.2.2.2
def paidOk (w : WorldD) : Bool := worldOk w && (List.range (honestL w).length).all (paidAt w)
theorem JudgePaid_law {w : WorldD} (h : WorldL w) : spec_JudgePaid F0 w = some (paidOk w, ()) := by
  have hlen : (honestL w).length ≤ 1048576 := Nat.le_trans (honest_len w.2.1 w.2.2.1.length) h.r
  rw [spec_JudgePaid_eq, WorldOk_law h, bnd, Honest_law h, bnd]
  dsimp only
  rw [all_to (fun m k => spec_JudgePaid_1 F0 (spec_JudgePaid_1_k F0) m (spec_JudgePaid_1_s k w.1.1 w.1.2 w.2.1 w.2.2.1 w.2.2.2.1 w.2.2.2.2 (honestL w))) (honestL w).length (paidAt w) (some (true, ())) (some (false, ())) (fun m k hk => ?_) (fun m => ?_) _ (by rw [n_eq]; omega), ite_some]
  · unfold paidOk
    cases worldOk w <;> rfl
  · obtain ⟨j, e, hj⟩ := honest_at hk
    have hr := h.rl _ (List.getElem_mem hj)
    have hs := stateOf_len w.1 w.2.2.1[j]
    rw [spec_JudgePaid_1_step, dec_lt hk, br_true, okI_nat hk, ck_true, at_isD hk, e, okI_nat hj, ck_true, at_isD hj, show ((w.1.1, w.1.2) : Int × Int) = w.1 from rfl, State_law hr, bnd, Total_law (by show (stateOf w.1 w.2.2.1[j]).1.length ≤ _; omega), bnd, l21Paid_law hr.s.2, bnd, spec_JudgePaid_1_cr, w64_succ (by omega)]
    unfold paidAt
    rw [rp_is hk e hj]
    dsimp only
    cases (sumTo (stateOf w.1 w.2.2.1[j]).1 0 != 400) <;> cases paidL (w.2.2.1[j]).2.2.2.1.2.2.2 <;> rfl
  · rw [spec_JudgePaid_1_step, dec_nlt, br_false, spec_JudgePaid_1_ce0]
theorem paid_step2 {β : Type} (a b e f : Bool) (x y : β) : br a (br b (br e (br f x y) y) y) y = if (!(a && (b && (e && f)))) = true then y else x := by
  cases a <;> cases b <;> cases e <;> cases f <;> rfl
theorem paid_in2 {w : WorldD} {t17 t18 : Int} {hs : List Int} {xs : List TxD} {cs : List Int} (hc : cs.length = xs.length) (hl : xs.length ≤ 1048576) {γ : Type} (κ : Ex → St → Option γ) (n : Nat) {i : Nat} (hi : i < xs.length) :
    impl_JudgePaid_3 F0 (impl_JudgePaid_3_k F0 κ n) F0.n (impl_JudgePaid_3_s (i : Int) t17 t18 (xs.length : Int) (i : Int) (i : Int) (i : Int) 0 w.1.1 w.1.2 w.2.1 w.2.2.1 w.2.2.2.1 w.2.2.2.2 (xs[i]).1 (xs[i]).2.1 (xs[i]).2.2.1 (xs[i]).2.2.2 xs cs hs) =
    if (List.range i).all (okP xs cs i) = true then impl_JudgePaid_2 F0 κ n (impl_JudgePaid_2_s t17 t18 (xs.length : Int) ((i + 1 : Nat) : Int) w.1.1 w.1.2 w.2.1 w.2.2.1 w.2.2.2.1 w.2.2.2.2 xs cs hs) else κ .ret (impl_JudgePaid_2_r false) := by
  refine all_to (fun m k => impl_JudgePaid_3 F0 (impl_JudgePaid_3_k F0 κ n) m (impl_JudgePaid_3_s (i : Int) t17 t18 (xs.length : Int) (i : Int) (i : Int) (i : Int) k w.1.1 w.1.2 w.2.1 w.2.2.1 w.2.2.2.1 w.2.2.2.2 (xs[i]).1 (xs[i]).2.1 (xs[i]).2.2.1 (xs[i]).2.2.2 xs cs hs)) i (okP xs cs i) _ _ (fun m k hk => ?_) (fun m => ?_) _ (by rw [n_eq]; omega)
  · have hk' : k < xs.length := by omega
    have hic : i < cs.length := by omega
    have hkc : k < cs.length := by omega
    rw [impl_JudgePaid_3_step, dec_lt hk, br_true, okI_nat hk, ck_true, okI_nat hic, ck_true, at_isD hic, paid_law, bnd, okI_nat hkc, ck_true, at_isD hkc, paid_law, bnd, at_isD hk', impl_JudgePaid_3_cr, w64_succ (by omega)]
    dsimp only
    rw [paid_step2]
    unfold okP paidC
    rw [getD_is hi, getD_is hk', getD_is hic, getD_is hkc]
  · rw [impl_JudgePaid_3_step, dec_nlt, br_false, impl_JudgePaid_3_ce4, w64_succ (by omega)]
theorem paid_all2 {w : WorldD} {t17 t18 : Int} {hs : List Int} {xs : List TxD} {cs : List Int} (hc : cs.length = xs.length) (hl : xs.length ≤ 1048576) {γ : Type} (κ : Ex → St → Option γ) (n : Nat) :
    impl_JudgePaid_2 F0 (impl_JudgePaid_2_k F0 κ n) F0.n (impl_JudgePaid_2_s t17 t18 (xs.length : Int) 0 w.1.1 w.1.2 w.2.1 w.2.2.1 w.2.2.2.1 w.2.2.2.2 xs cs hs) =
    if ((List.range xs.length).all fun i => (List.range i).all (okP xs cs i)) = true then impl_JudgePaid_1 F0 κ n (impl_JudgePaid_1_s t17 (w64 (t18 + 1)) w.1.1 w.1.2 w.2.1 w.2.2.1 w.2.2.2.1 w.2.2.2.2 hs) else κ .ret (impl_JudgePaid_1_r false) := by
  refine all_to (fun m k => impl_JudgePaid_2 F0 (impl_JudgePaid_2_k F0 κ n) m (impl_JudgePaid_2_s t17 t18 (xs.length : Int) k w.1.1 w.1.2 w.2.1 w.2.2.1 w.2.2.2.1 w.2.2.2.2 xs cs hs)) xs.length (fun i => (List.range i).all (okP xs cs i)) _ _ (fun m k hk => ?_) (fun m => ?_) _ (by rw [n_eq]; omega)
  · rw [impl_JudgePaid_2_step, dec_lt hk, br_true, okI_nat hk, ck_true, show okT (k : Int) (xs.length : Int) = true by simp [okT]; omega, ck_true, at_isD hk, paid_in2 hc hl _ _ hk, impl_JudgePaid_2_cr]
  · rw [impl_JudgePaid_2_step, dec_nlt, br_false, impl_JudgePaid_2_ce2]
theorem JudgePaid_law2 {w : WorldD} (h : WorldL w) : impl_JudgePaid F0 w = some (paidOk w, ()) := by
  have hlen : (honestL w).length ≤ 1048576 := Nat.le_trans (honest_len w.2.1 w.2.2.1.length) h.r
  rw [impl_JudgePaid_eq, WorldOk_law2 h, bnd, Honest_law2 h, bnd]
  dsimp only
  rw [all_to (fun m k => impl_JudgePaid_1 F0 (impl_JudgePaid_1_k F0) m (impl_JudgePaid_1_s ((honestL w).length : Int) k w.1.1 w.1.2 w.2.1 w.2.2.1 w.2.2.2.1 w.2.2.2.2 (honestL w))) (honestL w).length (paidAt w) (some (true, ())) (some (false, ())) (fun m k hk => ?_) (fun m => ?_) _ (by rw [n_eq]; omega), ite_some]
  · unfold paidOk
    cases worldOk w <;> rfl
  · obtain ⟨j, e, hj⟩ := honest_at hk
    have hr := h.rl _ (List.getElem_mem hj)
    have hs := stateOf_len w.1 w.2.2.1[j]
    have ht := txsL_len (w.2.2.1[j]).2.2.2.1.2.2.2
    rw [impl_JudgePaid_1_step, dec_lt hk, br_true, okI_nat hk, ck_true, at_isD hk, e, okI_nat hj, ck_true, at_isD hj, show ((w.1.1, w.1.2) : Int × Int) = w.1 from rfl, State_law2 hr, bnd, Total_law2 (by show (stateOf w.1 w.2.2.1[j]).1.length ≤ _; omega), bnd, ck_true, TxsIn_at2 hr.s.2, bnd, LedgerNew_law2, bnd, PayAll_law2 led0_4 (Nat.le_trans (txsL_len _) (by omega)), bnd, paid_all2 (payCodes_len _ _) (Nat.le_trans (txsL_len _) (by omega)), impl_JudgePaid_1_cr, w64_succ (by omega)]
    unfold paidAt
    rw [rp_is hk e hj]
    dsimp only
    rw [show ((List.range (txsL (w.2.2.1[j]).2.2.2.1.2.2.2).length).all fun i => (List.range i).all (okP (txsL (w.2.2.1[j]).2.2.2.1.2.2.2) (payCodes led0 (txsL (w.2.2.1[j]).2.2.2.1.2.2.2)) i)) = paidL (w.2.2.1[j]).2.2.2.1.2.2.2 from rfl]
    cases (sumTo (stateOf w.1 w.2.2.1[j]).1 0 != 400) <;> cases paidL (w.2.2.1[j]).2.2.2.1.2.2.2 <;> rfl
  · rw [impl_JudgePaid_1_step, dec_nlt, br_false, impl_JudgePaid_1_ce0]
/-! ### All -/
def allOk (w : WorldD) : Bool := oneOk w && (votesOk w && (certsOk w && (paidOk w && keptOk w)))
theorem JudgeAll_law {w : WorldD} (h : WorldL w) (hb : WorldB w) : spec_JudgeAll F0 w = some (allOk w, ()) := by
  rw [spec_JudgeAll_eq, JudgeOne_law h, bnd, JudgeVotes_law h, bnd, JudgeCerts_law h, bnd, JudgePaid_law h, bnd, JudgeKept_law h hb, bnd]
  unfold allOk
  cases oneOk w <;> cases votesOk w <;> cases certsOk w <;> cases paidOk w <;> rfl
theorem JudgeAll_law2 {w : WorldD} (h : WorldL w) (hb : WorldB w) : impl_JudgeAll F0 w = some (allOk w, ()) := by
  rw [impl_JudgeAll_eq, JudgeOne_law2 h, bnd, JudgeVotes_law2 h, bnd, JudgeCerts_law2 h, bnd, JudgePaid_law2 h, bnd, JudgeKept_law2 h hb, bnd]
  unfold allOk
  cases oneOk w <;> cases votesOk w <;> cases certsOk w <;> cases paidOk w <;> rfl
theorem FnExactJudgeAll_true (w : K49.D) (h : Wf K49 w) : laws_FnExactJudgeAll F0 w = some (true, ()) := by
  rw [laws_FnExactJudgeAll_eq]
  obtain ⟨left, h1, h2, h3⟩ := szWorld_ok (lim_of_wf h) 1048576 (by omega) (by omega)
  rw [h1, bnd]
  by_cases hn : left < 0
  · rw [decide_eq_true (show (left, ()).1 < 0 from hn), br_true]
  · have hl := h3 (by omega)
    have hw := worldL_of h hl
    have hb := worldB_of h hl
    simp only [decide_eq_false hn, br_false, toWorld_ok hl, bnd, JudgeAll_law hw hb, JudgeAll_law2 hw hb, eqWorld_ok hl, beq_self_eq_true, Bool.not_true]
end Go.Am.Tryz
