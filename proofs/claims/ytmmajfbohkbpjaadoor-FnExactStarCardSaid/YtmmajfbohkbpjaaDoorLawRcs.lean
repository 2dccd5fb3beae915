/- Plain laws: receipts of a list; the law. No condition. -/
import Derived.Test.YtmmajfbohkbpjaaDoorLawRc2
import Derived.Test.YtmmajfbohkbpjaaDoorAmMark
set_option linter.unusedVariables false
set_option linter.unusedSimpArgs false
namespace Go.Am.Tryd
open Go.Am
theorem szTxS_law (a : List TxD) (h63 : a.length ≤ 9223372036854775807) : SzOk (laws_szTxS F0) (fun a => a.length ≤ 1048576) a := by
  intro left h0 h1
  rw [laws_szTxS_eq]
  exact sz_len h63 h0 h1 fun k0 k1 k2 => ⟨_, rfl, Int.le_refl _, fun _ => k2⟩
theorem toTx_law (x : TxD) : laws_toTx F0 x = some (x, ()) := by
  rw [laws_toTx_eq]
theorem toTxS_law {a : List TxD} (h : a.length ≤ 1048576) : laws_toTxS F0 a = some (a, ()) := by
  rw [laws_toTxS_eq, okM_le (by omega) (by omega) (by omega), ck_true]
  refine copy_to (fun n i xs => laws_toTxS_1 F0 (laws_toTxS_1_k F0) n (laws_toTxS_1_s a i xs)) a (0, (0, (0, 0))) _ _ (fun n k xs hk hl => ?_) (fun n => ?_) _ (by rw [n_eq]; omega)
  · simp only [laws_toTxS_1_step, dec_lt hk, okI_nat hk, hl, br_true, ck_true, at_nat, w64_succ (show k + 1 ≤ 9223372036854775807 by omega), Int.toNat_natCast, toTx_law, bnd]
  · simp only [laws_toTxS_1_step, dec_nlt, br_false, laws_toTxS_1_ce0]
theorem eqTx_law (x : TxD) : laws_eqTx F0 x x = some (true, ()) := by
  rw [laws_eqTx_eq]
  simp only [bne_self_eq_false, br_false]
theorem eqTxS_law {a : List TxD} (h : a.length ≤ 1048576) : laws_eqTxS F0 a a = some (true, ()) := by
  rw [laws_eqTxS_eq, bne_self_eq_false, br_false]
  refine same_to (fun n i => laws_eqTxS_1 F0 (laws_eqTxS_1_k F0) n (laws_eqTxS_1_s a a i)) a.length _ (fun n k hk => ?_) (fun n => ?_) _ (by rw [n_eq]; omega)
  · simp only [laws_eqTxS_1_step, dec_lt hk, okI_nat hk, br_true, ck_true, w64_succ (show k + 1 ≤ 9223372036854775807 by omega), eqTx_law, bnd, Bool.not_true, br_false]
  · simp only [laws_eqTxS_1_step, dec_nlt, br_false, laws_eqTxS_1_ce0]
theorem eqReceipt_law (x : Int × Int) : laws_eqReceipt F0 x x = some (true, ()) := by
  rw [laws_eqReceipt_eq]
  simp only [bne_self_eq_false, br_false]
theorem eqReceiptS_law {a : List (Int × Int)} (h : a.length ≤ 1048576) : laws_eqReceiptS F0 a a = some (true, ()) := by
  rw [laws_eqReceiptS_eq, bne_self_eq_false, br_false]
  refine same_to (fun n i => laws_eqReceiptS_1 F0 (laws_eqReceiptS_1_k F0) n (laws_eqReceiptS_1_s a a i)) a.length _ (fun n k hk => ?_) (fun n => ?_) _ (by rw [n_eq]; omega)
  · simp only [laws_eqReceiptS_1_step, dec_lt hk, okI_nat hk, br_true, ck_true, w64_succ (show k + 1 ≤ 9223372036854775807 by omega), eqReceipt_law, bnd, Bool.not_true, br_false]
  · simp only [laws_eqReceiptS_1_step, dec_nlt, br_false, laws_eqReceiptS_1_ce0]
def rcsOf (name : List UInt8) (list : List TxD) : List (Int × Int) := list.map fun x => rcOf name x.1 x.2.2.2
theorem Receipts_law {name : List UInt8} (hn : name.length ≤ 1073741824) {list : List TxD} (hl : list.length ≤ 1048576) : spec_Receipts F0 (tx name) list = some (rcsOf name list, ()) := by
  rw [spec_Receipts_eq]
  refine push_to (fun n i xs => spec_Receipts_1 F0 (spec_Receipts_1_k F0) n (spec_Receipts_1_s (tx name) list i xs)) list (fun x => rcOf name x.1 x.2.2.2) _ (fun n k hk xs hx => ?_) (fun n => ?_) _ (by rw [n_eq]; omega)
  · simp only [spec_Receipts_1_step, dec_lt hk, okI_nat hk, br_true, ck_true, at_is hk, ReceiptOf_law hn, bnd]
    rw [okA_le (k := 16) (by omega) (by omega) (by simp only [List.length_cons, List.length_nil]; omega), ck_true, w64_succ (by omega)]
  · simp only [spec_Receipts_1_step, dec_nlt, br_false, spec_Receipts_1_ce0]
    rfl
theorem Receipts_law2 {name : List UInt8} (hn : name.length ≤ 1073741824) {list : List TxD} (hl : list.length ≤ 1048576) : impl_Receipts F0 (tx name) list = some (rcsOf name list, ()) := by
  rw [impl_Receipts_eq]
  refine push_to (fun n i xs => impl_Receipts_1 F0 (impl_Receipts_1_k F0) n (impl_Receipts_1_s (tx name) list (list.length : Int) i xs)) list (fun x => rcOf name x.1 x.2.2.2) _ (fun n k hk xs hx => ?_) (fun n => ?_) _ (by rw [n_eq]; omega)
  · simp only [impl_Receipts_1_step, dec_lt hk, okI_nat hk, br_true, ck_true, at_is hk, ReceiptOf_law2 hn, bnd]
    rw [okA_le (k := 16) (by omega) (by omega) (by simp only [List.length_cons, List.length_nil]; omega), ck_true, w64_succ (by omega)]
  · simp only [impl_Receipts_1_step, dec_nlt, br_false, impl_Receipts_1_ce0]
    rfl
/-! ### Marks -/
def mTx (k : Int) (_ : TxD) : TxD := (k, k + 1, k + 2, k + 3)
theorem markTxS_law {a : List TxD} (h : a.length ≤ 1048576) {k : Int} (h0 : 0 ≤ k) (h1 : k ≤ 1125899906842624) : laws_markTxS F0 a k = some ((k + 4 * a.length, ()), (mk mTx (fun _ => 4) k a, ())) := by
  rw [laws_markTxS_eq]
  refine mark_to mTx (fun _ => 4) (fun n i k xs => laws_markTxS_1 F0 (laws_markTxS_1_k F0) n (laws_markTxS_1_s k i xs)) a k _ (fun n i xs hi hl hx => ?_) (fun n => ?_) _ (by rw [n_eq]; omega)
  · have hi' : i < xs.length := by omega
    have hc := cnt_const (fun _ : TxD => 4) (c0 := 4) (fun _ => rfl) (a.take i)
    rw [List.length_take] at hc
    generalize hq : k + (cnt (fun _ : TxD => 4) (a.take i) : Int) = q
    have q0 : 0 ≤ q := by omega
    have q1 : q ≤ 1125899906842624 + 4194304 := by omega
    have w1 : w64 (q + 1) = q + 1 := w64_in (by omega) (by omega)
    have w2 : w64 (q + 1 + 1) = q + 2 := by rw [w64_in (by omega) (by omega)]; omega
    have w3 : w64 (q + 2 + 1) = q + 3 := by rw [w64_in (by omega) (by omega)]; omega
    have w4 : w64 (q + 3 + 1) = q + 4 := by rw [w64_in (by omega) (by omega)]; omega
    simp only [laws_markTxS_1_step, dec_lt hi', List.length_set, okI_nat hi', br_true, ck_true, Int.toNat_natCast, at_nat, List.getD, List.getElem?_set_self hi', List.set_set, Option.getD_some, w1, w2, w3, w4, w64_succ (show i + 1 ≤ 9223372036854775807 by omega), hx]
    rfl
  · rw [laws_markTxS_1_step, mk_len, dec_nlt, br_false, laws_markTxS_1_ce0, cnt_const _ (c0 := 4) (fun _ => rfl)]
    simp
def mRc (k : Int) (_ : Int × Int) : Int × Int := (k, k + 1)
theorem markReceiptS_law {a : List (Int × Int)} (h : a.length ≤ 1048576) {k : Int} (h0 : 0 ≤ k) (h1 : k ≤ 1125899906842624) : laws_markReceiptS F0 a k = some ((k + 2 * a.length, ()), (mk mRc (fun _ => 2) k a, ())) := by
  rw [laws_markReceiptS_eq]
  refine mark_to mRc (fun _ => 2) (fun n i k xs => laws_markReceiptS_1 F0 (laws_markReceiptS_1_k F0) n (laws_markReceiptS_1_s k i xs)) a k _ (fun n i xs hi hl hx => ?_) (fun n => ?_) _ (by rw [n_eq]; omega)
  · have hi' : i < xs.length := by omega
    have hc := cnt_const (fun _ : Int × Int => 2) (c0 := 2) (fun _ => rfl) (a.take i)
    rw [List.length_take] at hc
    generalize hq : k + (cnt (fun _ : Int × Int => 2) (a.take i) : Int) = q
    have w1 : w64 (q + 1) = q + 1 := w64_in (by omega) (by omega)
    have w2 : w64 (q + 1 + 1) = q + 2 := by rw [w64_in (by omega) (by omega)]; omega
    simp only [laws_markReceiptS_1_step, dec_lt hi', List.length_set, okI_nat hi', br_true, ck_true, Int.toNat_natCast, at_nat, List.getD, List.getElem?_set_self hi', List.set_set, Option.getD_some, w1, w2, w64_succ (show i + 1 ≤ 9223372036854775807 by omega), hx]
    rfl
  · rw [laws_markReceiptS_1_step, mk_len, dec_nlt, br_false, laws_markReceiptS_1_ce0, cnt_const _ (c0 := 2) (fun _ => rfl)]
    simp
theorem heldReceiptS_law {a : List (Int × Int)} (h : a.length ≤ 1048576) {k : Int} (h0 : 0 ≤ k) (h1 : k ≤ 1125899906842624) : laws_heldReceiptS F0 (mk mRc (fun _ => 2) k a) k = some (k + 2 * a.length, ()) := by
  rw [laws_heldReceiptS_eq]
  refine held_to mRc (fun _ => 2) (fun n i q => laws_heldReceiptS_1 F0 (laws_heldReceiptS_1_k F0) n (laws_heldReceiptS_1_s (mk mRc (fun _ => 2) k a) q i)) a k _ (fun n i hi hx => ?_) (fun n => ?_) _ (by rw [n_eq]; omega)
  · have hi' := get_lt hx
    have hc := cnt_const (fun _ : Int × Int => 2) (c0 := 2) (fun _ => rfl) (a.take i)
    rw [List.length_take] at hc
    generalize hq : k + (cnt (fun _ : Int × Int => 2) (a.take i) : Int) = q at hx ⊢
    have w1 : w64 (q + 1) = q + 1 := w64_in (by omega) (by omega)
    have w2 : w64 (q + 1 + 1) = q + 2 := by rw [w64_in (by omega) (by omega)]; omega
    simp only [laws_heldReceiptS_1_step, dec_lt hi', okI_nat hi', br_true, ck_true, at_get hx, mRc, bne_self_eq_false, br_false, w1, w2, w64_succ (show i + 1 ≤ 9223372036854775807 by omega)]
    rfl
  · rw [laws_heldReceiptS_1_step, mk_len, dec_nlt, br_false, laws_heldReceiptS_1_ce0, cnt_const _ (c0 := 2) (fun _ => rfl)]
    simp
theorem FnExactReceipts_true (name : ByteArray) (list : List TxD) (h63 : list.length ≤ 9223372036854775807) : laws_FnExactReceipts F0 name list = some (true, ()) := by
  obtain ⟨l, rfl⟩ : ∃ l, name = tx l := ⟨_, tx_of name⟩
  rw [laws_FnExactReceipts_eq, tx_size]
  by_cases h : (l.length : Int) > 1048576
  · rw [decide_eq_true h, br_true]
  · rw [decide_eq_false h, br_false]
    refine sz_law (szTxS_law list h63) fun hl => ?_
    have hr : (rcsOf l list).length ≤ 1048576 := by rw [rcsOf, List.length_map]; exact hl
    have d1 : decide ((1 : Int) + 4 * list.length < 0) = false := decide_eq_false (by omega)
    have d2 : decide ((1 : Int) + 2 * (rcsOf l list).length < 0) = false := decide_eq_false (by omega)
    simp only [toTxS_law hl, bnd, Receipts_law (name := l) (by omega) hl, Receipts_law2 (name := l) (by omega) hl, eqReceiptS_law hr, eqTxS_law hl, markTxS_law hl (k := 1) (by omega) (by omega), d1, markReceiptS_law hr (k := 1) (by omega) (by omega), heldReceiptS_law hr (k := 1) (by omega) (by omega), d2, bne_self_eq_false, Bool.not_true, br_false]
end Go.Am.Tryd
