/- Plain laws: ledgers, parts, certificates as texts. No condition. -/
import Derived.Test.YtmmajfbohkbpjaaDoorLawText
set_option linter.unusedVariables false
set_option linter.unusedSimpArgs false
namespace Go.Am.Tryd
open Go.Am
/-! ### Sizes, copies, comparisons -/
theorem szIntS_law {a : List Int} (h : a.length ≤ 9223372036854775807) : SzOk (laws_szIntS F0) (fun a => a.length ≤ 1048576) a := by
  intro left h0 h1
  rw [laws_szIntS_eq]
  exact sz_len h h0 h1 fun _ _ h4 => ⟨_, rfl, Int.le_refl _, fun _ => h4⟩
theorem szLedger_law {a : List Int × List Int} (h1 : a.1.length ≤ 9223372036854775807) (h2 : a.2.length ≤ 9223372036854775807) : SzOk (laws_szLedger F0) (fun a => a.1.length ≤ 1048576 ∧ a.2.length ≤ 1048576) a := by
  intro left h0 hl
  rw [laws_szLedger_eq]
  refine sz_bind (szIntS_law h1) h0 hl fun r h3 h4 h5 => ?_
  exact sz_bind (szIntS_law h2) h3 (by omega) fun r' h6 h7 h8 => ⟨r', rfl, Int.le_refl _, fun _ => ⟨h5, h8⟩⟩
theorem szPart_law {a : Int × (ByteArray × List Int)} (h1 : a.2.1.size ≤ 9223372036854775807) (h2 : a.2.2.length ≤ 9223372036854775807) : SzOk (laws_szPart F0) (fun a => a.2.1.size ≤ 1048576 ∧ a.2.2.length ≤ 1048576) a := by
  intro left h0 hl
  rw [laws_szPart_eq]
  refine sz_len h1 h0 hl fun h3 h4 h5 => ?_
  exact sz_bind (szIntS_law h2) h3 (by omega) fun r' h6 h7 h8 => ⟨r', rfl, Int.le_refl _, fun _ => ⟨h5, h8⟩⟩
theorem szQc_law {a : Int × (ByteArray × List Int)} (h1 : a.2.1.size ≤ 9223372036854775807) (h2 : a.2.2.length ≤ 9223372036854775807) : SzOk (laws_szQc F0) (fun a => a.2.1.size ≤ 1048576 ∧ a.2.2.length ≤ 1048576) a := by
  intro left h0 hl
  rw [laws_szQc_eq]
  refine sz_len h1 h0 hl fun h3 h4 h5 => ?_
  exact sz_bind (szIntS_law h2) h3 (by omega) fun r' h6 h7 h8 => ⟨r', rfl, Int.le_refl _, fun _ => ⟨h5, h8⟩⟩
theorem toLedger_law {a : List Int × List Int} (h1 : a.1.length ≤ 1048576) (h2 : a.2.length ≤ 1048576) : laws_toLedger F0 a = some (a, ()) := by
  rw [laws_toLedger_eq, toIntS_law h1, bnd, toIntS_law h2, bnd]
theorem toPart_law {a : Int × (ByteArray × List Int)} (h : a.2.2.length ≤ 1048576) : laws_toPart F0 a = some (a, ()) := by
  rw [laws_toPart_eq, toIntS_law h, bnd]
theorem toQc_law {a : Int × (ByteArray × List Int)} (h : a.2.2.length ≤ 1048576) : laws_toQc F0 a = some (a, ()) := by
  rw [laws_toQc_eq, toIntS_law h, bnd]
theorem eqLedger_law {a : List Int × List Int} (h1 : a.1.length ≤ 1048576) (h2 : a.2.length ≤ 1048576) : laws_eqLedger F0 a a = some (true, ()) := by
  rw [laws_eqLedger_eq, eqIntS_law h1, bnd, eqIntS_law h2]
  simp only [Bool.not_true, br_false, bnd]
theorem eqPart_law {a : Int × (ByteArray × List Int)} (h : a.2.2.length ≤ 1048576) : laws_eqPart F0 a a = some (true, ()) := by
  rw [laws_eqPart_eq, eqIntS_law h, same_text, bne_self_eq_false]
  simp only [Bool.not_true, br_false, bnd]
theorem eqQc_law {a : Int × (ByteArray × List Int)} (h : a.2.2.length ≤ 1048576) : laws_eqQc F0 a a = some (true, ()) := by
  rw [laws_eqQc_eq, eqIntS_law h, same_text, bne_self_eq_false]
  simp only [Bool.not_true, br_false, bnd]

/-! ### Parts, certificates -/
def spL : List UInt8 := [32]
def partL (p : Int × (ByteArray × List Int)) : List UInt8 := (if p.2.1.toList == (ByteArray.mk #[]).toList then [108, 97, 116, 101] else [118, 111, 116, 101]) ++ [32] ++ Lib.itoa p.1 ++ [32] ++ whoL p.2.2
def qcL (q : Int × (ByteArray × List Int)) : List UInt8 := Lib.itoa q.1 ++ [32] ++ (if q.2.1.toList == (ByteArray.mk #[]).toList then [115, 116, 97, 114, 116] else q.2.1.data.toList) ++ [32] ++ whoL q.2.2
theorem partText_law {p : Int × (ByteArray × List Int)} (hv : I64 p.1) (hw : Ints p.2.2) : spec_PartText F0 p = some (tx (partL p), ()) := by
  have h1 := itoa_le hv
  have h2 := whoL_le hw
  rw [spec_PartText_eq, digits_law hv, whoText_law hw]
  unfold partL
  cases p.2.1.toList == (ByteArray.mk #[]).toList <;>
  simp only [br_true, br_false, bnd, show ByteArray.mk #[108, 97, 116, 101] = tx [108, 97, 116, 101] from rfl, show ByteArray.mk #[118, 111, 116, 101] = tx [118, 111, 116, 101] from rfl, show ByteArray.mk #[32] = tx [32] from rfl, tx_append, tx_size] <;>
  (rw [okC_le (by simp only [List.length_append, List.length_cons, List.length_nil]; omega), ck_true, okC_le (by simp only [List.length_append, List.length_cons, List.length_nil]; omega), ck_true, okC_le (by simp only [List.length_append, List.length_cons, List.length_nil]; omega), ck_true, okC_le (by simp only [List.length_append, List.length_cons, List.length_nil]; omega), ck_true]; rfl)
theorem partText_law2 {p : Int × (ByteArray × List Int)} (hv : I64 p.1) (hw : Ints p.2.2) : impl_PartText F0 p = some (tx (partL p), ()) := by
  have h1 := itoa_le hv
  have h2 := whoL_le hw
  rw [impl_PartText_eq, itoa_law hv, whoText_law2 hw]
  unfold partL
  cases p.2.1.toList == (ByteArray.mk #[]).toList <;>
  simp only [br_true, br_false, bnd, show ByteArray.mk #[108, 97, 116, 101] = tx [108, 97, 116, 101] from rfl, show ByteArray.mk #[118, 111, 116, 101] = tx [118, 111, 116, 101] from rfl, show ByteArray.mk #[32] = tx [32] from rfl, tx_append, tx_size] <;>
  (rw [okC_le (by simp only [List.length_append, List.length_cons, List.length_nil]; omega), ck_true, okC_le (by simp only [List.length_append, List.length_cons, List.length_nil]; omega), ck_true, okC_le (by simp only [List.length_append, List.length_cons, List.length_nil]; omega), ck_true, okC_le (by simp only [List.length_append, List.length_cons, List.length_nil]; omega), ck_true]; rfl)
theorem qcText_law {q : Int × (ByteArray × List Int)} (hv : I64 q.1) (hs : q.2.1.size ≤ 1048576) (hw : Ints q.2.2) : spec_QcText F0 q = some (tx (qcL q), ()) := by
  have h1 := itoa_le hv
  have h2 := whoL_le hw
  obtain ⟨v, b, s⟩ := q
  obtain ⟨l, rfl⟩ : ∃ l, b = tx l := ⟨_, tx_of b⟩
  simp only [tx_size] at hs h1 h2 hv hw
  rw [spec_QcText_eq, digits_law hv, whoText_law hw]
  unfold qcL
  simp only [tx_list]
  cases (tx l).toList == (ByteArray.mk #[]).toList <;>
  simp only [br_true, br_false, bnd, show ByteArray.mk #[115, 116, 97, 114, 116] = tx [115, 116, 97, 114, 116] from rfl, show ByteArray.mk #[32] = tx [32] from rfl, tx_append, tx_size] <;>
  (rw [okC_le (by simp only [List.length_append, List.length_cons, List.length_nil]; omega), ck_true, okC_le (by simp only [List.length_append, List.length_cons, List.length_nil]; omega), ck_true, okC_le (by simp only [List.length_append, List.length_cons, List.length_nil]; omega), ck_true, okC_le (by simp only [List.length_append, List.length_cons, List.length_nil]; omega), ck_true]; rfl)
theorem qcText_law2 {q : Int × (ByteArray × List Int)} (hv : I64 q.1) (hs : q.2.1.size ≤ 1048576) (hw : Ints q.2.2) : impl_QcText F0 q = some (tx (qcL q), ()) := by
  have h1 := itoa_le hv
  have h2 := whoL_le hw
  obtain ⟨v, b, s⟩ := q
  obtain ⟨l, rfl⟩ : ∃ l, b = tx l := ⟨_, tx_of b⟩
  simp only [tx_size] at hs h1 h2 hv hw
  rw [impl_QcText_eq, itoa_law hv, whoText_law2 hw]
  unfold qcL
  simp only [tx_list]
  cases (tx l).toList == (ByteArray.mk #[]).toList <;>
  simp only [br_true, br_false, bnd, show ByteArray.mk #[115, 116, 97, 114, 116] = tx [115, 116, 97, 114, 116] from rfl, show ByteArray.mk #[32] = tx [32] from rfl, tx_append, tx_size] <;>
  (rw [okC_le (by simp only [List.length_append, List.length_cons, List.length_nil]; omega), ck_true, okC_le (by simp only [List.length_append, List.length_cons, List.length_nil]; omega), ck_true, okC_le (by simp only [List.length_append, List.length_cons, List.length_nil]; omega), ck_true, okC_le (by simp only [List.length_append, List.length_cons, List.length_nil]; omega), ck_true]; rfl)

/-! ### Ledgers -/
def ledgerL (l : List Int × List Int) : List UInt8 := Lib.join (l.1.map Lib.itoa ++ [47] :: l.2.map Lib.itoa) [32]
theorem join_mid (A : List (List UInt8)) (m : List UInt8) (B : List (List UInt8)) (s : List UInt8) : Lib.join (A ++ m :: B) s = (A.map (· ++ s)).flatten ++ m ++ Lib.joinTail s B := by
  induction A with
  | nil => rw [List.nil_append, Lib.join_cons]; simp
  | cons x r ih =>
    rw [List.cons_append, Lib.join_cons]
    have h2 : Lib.joinTail s (r ++ m :: B) = s ++ Lib.join (r ++ m :: B) s := by
      cases r with
      | nil => rw [List.nil_append, Lib.join_cons]; simp [Lib.joinTail]
      | cons y r => rw [List.cons_append, Lib.join_cons]; simp [Lib.joinTail]
    rw [h2, ih]
    simp
theorem ledgerL_le {l : List Int × List Int} (h1 : Ints l.1) (h2 : Ints l.2) : (ledgerL l).length ≤ 46137366 := by
  have := join_le (l := l.1.map Lib.itoa ++ [47] :: l.2.map Lib.itoa) (c := 21) (fun x hx => by
    rcases List.mem_append.1 hx with hx | hx
    · exact itoas_le h1.2 x hx
    · rcases List.mem_cons.1 hx with rfl | hx
      · simp
      · exact itoas_le h2.2 x hx) 32
  have e1 := h1.1
  have e2 := h2.1
  simp only [List.length_append, List.length_cons, List.length_map] at this
  unfold ledgerL
  omega
theorem flat_le {a : List Int} (h : ∀ x ∈ a, I64 x) (s : UInt8) : (((a.map Lib.itoa).map (· ++ [s])).flatten).length ≤ 22 * a.length := by
  induction a with
  | nil => simp
  | cons x r ih =>
    have := ih fun y hy => h y (List.mem_cons_of_mem _ hy)
    have h2 := itoa_le (h x List.mem_cons_self)
    simp only [List.map_cons, List.flatten_cons, List.length_append, List.length_cons, List.length_nil] at this ⊢
    omega
theorem tail_le {a : List Int} (h : ∀ x ∈ a, I64 x) (s : UInt8) : (Lib.joinTail [s] (a.map Lib.itoa)).length ≤ 22 * a.length := by
  induction a with
  | nil => simp [Lib.joinTail]
  | cons x r ih =>
    have := ih fun y hy => h y (List.mem_cons_of_mem _ hy)
    have h2 := itoa_le (h x List.mem_cons_self)
    simp only [Lib.joinTail, List.map_cons, List.flatten_cons, List.length_append, List.length_cons, List.length_nil] at this ⊢
    omega
theorem ledgerText_law {l : List Int × List Int} (h1 : Ints l.1) (h2 : Ints l.2) : spec_LedgerText F0 l = some (tx (ledgerL l), ()) := by
  obtain ⟨a, b⟩ := l
  have ha := h1.1
  have hb := h2.1
  simp only at h1 h2 ha hb
  rw [spec_LedgerText_eq]
  have fa := flat_le h1.2 32
  refine loop_to (fun n i (out : ByteArray) => spec_LedgerText_1 F0 (spec_LedgerText_1_k F0) n (spec_LedgerText_1_s out i a b)) a.length (fun k out => out = tx (((a.take k).map Lib.itoa).map (· ++ [32])).flatten) _ (fun n k out hk ho => .inr ⟨_, ?_, rfl⟩) (fun n out ho => ?_) F0.n 0 (tx []) (Nat.zero_le _) rfl (by rw [n_eq]; omega)
  · subst ho
    have hd := digits_law (h1.2 _ (getD_mem hk 0))
    have hi := itoa_le (h1.2 _ (getD_mem hk 0))
    have hj := flat_le (a := a.take k) (fun x hx => h1.2 x (List.mem_of_mem_take hx)) 32
    rw [List.length_take] at hj
    have hm : ((((a.take k).map Lib.itoa).map (· ++ [32])).flatten ++ Lib.itoa (a.getD k 0)) ++ [32] = ((((a.take (k + 1)).map Lib.itoa).map (· ++ [32])).flatten) := by
      rw [take_map_succ hk]
      simp
    rw [spec_LedgerText_1_step, dec_lt hk, br_true, okI_nat hk, ck_true, at_nat, hd, bnd]
    simp only [show ByteArray.mk #[32] = tx [32] from rfl, tx_append]
    rw [okC_le (by simp only [tx_size]; omega), ck_true, okC_le (by simp only [tx_size, List.length_append, List.length_cons, List.length_nil]; omega), ck_true, w64_succ (by omega), hm]
  · subst ho
    rw [spec_LedgerText_1_step, dec_nlt, br_false, spec_LedgerText_1_ce0, List.take_length, show ByteArray.mk #[47] = tx [47] from rfl, okC_le (by simp only [tx_size, List.length_cons, List.length_nil]; omega), ck_true, tx_append]
    have fb := tail_le h2.2 32
    have hout : ledgerL (a, b) = (((a.map Lib.itoa).map (· ++ [32])).flatten ++ [47]) ++ Lib.joinTail [32] (b.map Lib.itoa) := join_mid _ _ _ _
    rw [hout]
    refine loop_to (fun n i (out : ByteArray) => spec_LedgerText_2 F0 (spec_LedgerText_2_k F0) n (spec_LedgerText_2_s out i a b)) b.length (fun k out => out = tx ((((a.map Lib.itoa).map (· ++ [32])).flatten ++ [47]) ++ Lib.joinTail [32] ((b.take k).map Lib.itoa))) _ (fun n k out hk ho => .inr ⟨_, ?_, rfl⟩) (fun n out ho => ?_) F0.n 0 (tx (((a.map Lib.itoa).map (· ++ [32])).flatten ++ [47])) (Nat.zero_le _) ?_ (by rw [n_eq]; omega)
    · subst ho
      have hd := digits_law (h2.2 _ (getD_mem hk 0))
      have hi := itoa_le (h2.2 _ (getD_mem hk 0))
      have hj := tail_le (a := b.take k) (fun x hx => h2.2 x (List.mem_of_mem_take hx)) 32
      rw [List.length_take] at hj
      have hm : ((((((a.map Lib.itoa).map (· ++ [32])).flatten ++ [47]) ++ Lib.joinTail [32] ((b.take k).map Lib.itoa)) ++ [32]) ++ Lib.itoa (b.getD k 0)) = ((((a.map Lib.itoa).map (· ++ [32])).flatten ++ [47]) ++ Lib.joinTail [32] ((b.take (k + 1)).map Lib.itoa)) := by
        rw [take_map_succ hk]
        simp [Lib.joinTail]
      rw [spec_LedgerText_2_step, dec_lt hk, br_true, okI_nat hk, at_nat, hd]
      simp only [show ByteArray.mk #[32] = tx [32] from rfl, tx_append]
      rw [okC_le (by simp only [tx_size, List.length_append, List.length_cons, List.length_nil]; omega), ck_true, ck_true, bnd]
      simp only [tx_append]
      rw [okC_le (by simp only [tx_size, List.length_append, List.length_cons, List.length_nil]; omega), ck_true, w64_succ (by omega), hm]
    · subst ho
      rw [spec_LedgerText_2_step, dec_nlt, br_false, spec_LedgerText_2_ce2, List.take_length]
    · simp [Lib.joinTail]
theorem ledgerText_law2 {l : List Int × List Int} (h1 : Ints l.1) (h2 : Ints l.2) : impl_LedgerText F0 l = some (tx (ledgerL l), ()) := by
  have hlen := ledgerL_le h1 h2
  obtain ⟨a, b⟩ := l
  have ha := h1.1
  have hb := h2.1
  simp only at h1 h2 ha hb
  rw [impl_LedgerText_eq]
  refine loop_to (fun n i (xs : List ByteArray) => impl_LedgerText_1 F0 (impl_LedgerText_1_k F0) n (impl_LedgerText_1_s a (a.length : Int) i a b xs)) a.length (fun k xs => xs = (a.take k).map fun n => tx (Lib.itoa n)) _ (fun n k xs hk ho => .inr ⟨_, ?_, rfl⟩) (fun n xs ho => ?_) F0.n 0 [] (Nat.zero_le _) rfl (by rw [n_eq]; omega)
  · subst ho
    have hd := itoa_law (h1.2 _ (getD_mem hk 0))
    have hc : ((a.take k).map fun n => tx (Lib.itoa n)).length + 1 ≤ 1048577 := by
      rw [List.length_map, List.length_take]
      omega
    have hm : ((a.take k).map fun n => tx (Lib.itoa n)) ++ [tx (Lib.itoa (a.getD k 0))] = (a.take (k + 1)).map fun n => tx (Lib.itoa n) := by
      rw [List.take_add_one, getD_is hk 0]
      simp
    rw [impl_LedgerText_1_step, dec_lt hk, br_true, okI_nat hk, ck_true, at_nat, hd, bnd]
    rw [okA_le (b := [tx (Lib.itoa (a.getD k 0))].length) (k := 16) (by omega) (by omega) (Nat.le_trans hc (by omega)), ck_true, w64_succ (by omega)]
    simp only [hm]
  · subst ho
    have hc : (a.map fun n => tx (Lib.itoa n)).length + 1 ≤ 1048577 := by
      rw [List.length_map]
      omega
    rw [impl_LedgerText_1_step, dec_nlt, br_false, impl_LedgerText_1_ce0, List.take_length, show ByteArray.mk #[47] = tx [47] from rfl, okA_le (b := [tx [47]].length) (k := 16) (by omega) (by omega) (Nat.le_trans hc (by omega)), ck_true]
    refine loop_to (fun n i (xs : List ByteArray) => impl_LedgerText_2 F0 (impl_LedgerText_2_k F0) n (impl_LedgerText_2_s b (b.length : Int) i xs)) b.length (fun k xs => xs = ((a.map fun n => tx (Lib.itoa n)) ++ [tx [47]]) ++ (b.take k).map fun n => tx (Lib.itoa n)) _ (fun n k xs hk ho => .inr ⟨_, ?_, rfl⟩) (fun n xs ho => ?_) F0.n 0 ((a.map fun n => tx (Lib.itoa n)) ++ [tx [47]]) (Nat.zero_le _) ?_ (by rw [n_eq]; omega)
    · subst ho
      have hd := itoa_law (h2.2 _ (getD_mem hk 0))
      have hc : (((a.map fun n => tx (Lib.itoa n)) ++ [tx [47]]) ++ (b.take k).map fun n => tx (Lib.itoa n)).length + 1 ≤ 2097154 := by
        rw [List.length_append, List.length_append, List.length_map, List.length_map, List.length_take, List.length_cons, List.length_nil]
        omega
      have hm : (((a.map fun n => tx (Lib.itoa n)) ++ [tx [47]]) ++ (b.take k).map fun n => tx (Lib.itoa n)) ++ [tx (Lib.itoa (b.getD k 0))] = ((a.map fun n => tx (Lib.itoa n)) ++ [tx [47]]) ++ (b.take (k + 1)).map fun n => tx (Lib.itoa n) := by
        rw [List.take_add_one, getD_is hk 0]
        simp
      rw [impl_LedgerText_2_step, dec_lt hk, br_true, okI_nat hk, ck_true, at_nat, hd, bnd]
      rw [okA_le (b := [tx (Lib.itoa (b.getD k 0))].length) (k := 16) (by omega) (by omega) (Nat.le_trans hc (by omega)), ck_true, w64_succ (by omega)]
      simp only [hm]
    · subst ho
      have hmap : ((((a.map fun n => tx (Lib.itoa n)) ++ [tx [47]]) ++ b.map fun n => tx (Lib.itoa n)).map fun b => b.data.toList) = a.map Lib.itoa ++ [47] :: b.map Lib.itoa := by
        rw [List.map_append, List.map_append, data_map, data_map]
        simp [tx]
      rw [impl_LedgerText_2_step, dec_nlt, br_false, impl_LedgerText_2_ce2, List.take_length, show ByteArray.mk #[32] = tx [32] from rfl, strings_Join_law hmap (by simp only [List.length_append, List.length_map, List.length_cons, List.length_nil]; omega) (Nat.le_trans (show (Lib.join (a.map Lib.itoa ++ [47] :: b.map Lib.itoa) [32]).length ≤ 46137366 from hlen) (by omega)), bnd]
      rfl
    · simp

/-! ### The laws -/
theorem FnExactLedgerText_true (l : List Int × List Int) (m1 : l.1.length ≤ 9223372036854775807) (m2 : l.2.length ≤ 9223372036854775807) (h1 : ∀ x ∈ l.1, I64 x) (h2 : ∀ x ∈ l.2, I64 x) : laws_FnExactLedgerText F0 l = some (true, ()) := by
  rw [laws_FnExactLedgerText_eq]
  refine sz_law (szLedger_law m1 m2) fun hP => ?_
  simp only [toLedger_law hP.1 hP.2, bnd, ledgerText_law ⟨hP.1, h1⟩ ⟨hP.2, h2⟩, ledgerText_law2 ⟨hP.1, h1⟩ ⟨hP.2, h2⟩, same_text, br_false, eqLedger_law hP.1 hP.2, Bool.not_true]
theorem FnExactPartText_true (p : Int × (ByteArray × List Int)) (m1 : p.2.1.size ≤ 9223372036854775807) (m2 : p.2.2.length ≤ 9223372036854775807) (hv : I64 p.1) (h : ∀ x ∈ p.2.2, I64 x) : laws_FnExactPartText F0 p = some (true, ()) := by
  rw [laws_FnExactPartText_eq]
  refine sz_law (szPart_law m1 m2) fun hP => ?_
  simp only [toPart_law hP.2, bnd, partText_law hv ⟨hP.2, h⟩, partText_law2 hv ⟨hP.2, h⟩, same_text, br_false, eqPart_law hP.2, Bool.not_true]
theorem FnExactQcText_true (p : Int × (ByteArray × List Int)) (m1 : p.2.1.size ≤ 9223372036854775807) (m2 : p.2.2.length ≤ 9223372036854775807) (hv : I64 p.1) (h : ∀ x ∈ p.2.2, I64 x) : laws_FnExactQcText F0 p = some (true, ()) := by
  rw [laws_FnExactQcText_eq]
  refine sz_law (szQc_law m1 m2) fun hP => ?_
  simp only [toQc_law hP.2, bnd, qcText_law hv hP.1 ⟨hP.2, h⟩, qcText_law2 hv hP.1 ⟨hP.2, h⟩, same_text, br_false, eqQc_law hP.2, Bool.not_true]
end Go.Am.Tryd
